/- The law gemot/gemotlaw1.TermMakes: for every input it returns true, and the input reads behind the call as it read before; no condition. -/
import Derived.Test.YtpfpmjdifnoeoaaLTerm3
import Derived.Test.YtpfpmjdifnoeoaaF65
import Derived.Test.YtpfpmjdifnoeoaaF79
import Derived.Test.YtpfpmjdifnoeoaaF81
import Derived.Test.YtpfpmjdifnoeoaaF92
import Derived.Test.YtpfpmjdifnoeoaaF94
import Derived.Test.YtpfpmjdifnoeoaaF95
import Derived.Test.YtpfpmjdifnoeoaaF96
import Derived.Test.YtpfpmjdifnoeoaaF0
import Derived.Test.YtpfpmjdifnoeoaaF86
import Derived.Test.YtpfpmjdifnoeoaaF88
import Derived.Test.YtpfpmjdifnoeoaaF126
import Derived.Test.YtpfpmjdifnoeoaaF131
import Derived.Test.YtpfpmjdifnoeoaaF99
import Derived.Test.YtpfpmjdifnoeoaaF66
import Derived.Test.YtpfpmjdifnoeoaaF132
import Derived.Test.YtpfpmjdifnoeoaaF133
import Derived.Test.YtpfpmjdifnoeoaaF135
import Derived.Test.YtpfpmjdifnoeoaaF140
import Derived.Test.YtpfpmjdifnoeoaaF90
import Derived.Test.YtpfpmjdifnoeoaaF141
import Derived.Test.YtpfpmjdifnoeoaaRows
import Derived.Test.YtpfpmjdifnoeoaaRowOpen
import Derived.Test.YtpfpmjdifnoeoaaRowFacts
import Derived.WalkKit
import Derived.ProofKit
import Derived.OpenShut
import Derived.ShutString
import Derived.ChangeOld
import Derived.Below
import Derived.SizedLaws
import Derived.Carry
import Derived.WideShapes
namespace Go.Proofs.Ytpfpmjdifnoeoaa.Pure
set_option linter.unusedVariables false
set_option linter.unusedSimpArgs false
open Go.RowKit Go.Proofs.Ytpfpmjdifnoeoaa.F Go.Proofs.YtpfpmjdifnoeoaaW.PrintWords Go.Proofs.YtpfpmjdifnoeoaaW.PrintLast

/-! ### Leaves -/
theorem leaf_of {t : ByteArray} (h : leafF t = t.size) (h0 : 0 < t.size) : Leaf t := ⟨by omega, h⟩
theorem Leaf.right {t : ByteArray} (h : Leaf t) (hs : t.size ≤ 20000) : rightB t = true := (right_iff t).mpr ⟨h.tm.1, hs⟩
theorem num_leaf (n : Int) : Leaf (numF n) := by
  have b0 : bt (numF n) 0 = 117 := rfl
  have hz : (numF n).size = 9 := rfl
  exact leaf_of (by unfold leafF; rw [b0, hz]; rfl) (by omega)
theorem name_leaf (n : Int) : Leaf (nameF n) := by
  have b0 : bt (nameF n) 0 = 110 := rfl
  have hz : (nameF n).size = 9 := rfl
  exact leaf_of (by unfold leafF; rw [b0, hz]; rfl) (by omega)
theorem name_size (n : Int) : (nameF n).size = 9 := rfl
theorem gen_leaf : Leaf ⟨#[103]⟩ := leaf_of (by unfold leafF; rfl) (by decide)
theorem priv_ok {p : Int} (h1 : 1 ≤ p) (h2 : p ≤ 8) : privF p = (⟨#[105, UInt8.ofNat p.toNat]⟩, 0) ∧ Leaf ⟨#[105, UInt8.ofNat p.toNat]⟩ := by
  have e : strOfNums [105, p] = ⟨#[105, UInt8.ofNat p.toNat]⟩ := rfl
  refine ⟨by unfold privF; rw [if_pos ⟨h1, h2⟩, e], ?_⟩
  have b0 : bt ⟨#[105, UInt8.ofNat p.toNat]⟩ 0 = 105 := rfl
  have b1 : bt ⟨#[105, UInt8.ofNat p.toNat]⟩ 1 = p := by
    have h4 : bt (⟨#[105, UInt8.ofNat p.toNat]⟩ : ByteArray) 1 = ((UInt8.ofNat p.toNat).toNat : Int) := rfl
    rw [h4, UInt8.toNat_ofNat_of_lt' (by show p.toNat < 256; omega)]
    omega
  have hz : (⟨#[105, UInt8.ofNat p.toNat]⟩ : ByteArray).size = 2 := rfl
  refine leaf_of ?_ (by omega)
  unfold leafF
  rw [b0, b1, hz]
  simp only [show ¬ ((105 : Int) = 103) from by decide, show ¬ ((105 : Int) = 110 ∨ (105 : Int) = 117) from by decide, if_false, if_true]
  rw [if_pos ⟨by omega, h1, h2⟩]
  rfl
theorem text_bytes (s : ByteArray) (h : s.size ≤ 100) : bt (strOfNums [116, 0, s.size] ++ s) 0 = 116 ∧ bt (strOfNums [116, 0, s.size] ++ s) 1 = 0 ∧ bt (strOfNums [116, 0, s.size] ++ s) 2 = s.size ∧ (strOfNums [116, 0, s.size] ++ s).size = 3 + s.size := by
  have hz : (strOfNums [116, 0, (s.size : Int)]).size = 3 := rfl
  refine ⟨bt_left _ s 0 (by omega), bt_left _ s 1 (by omega), (bt_left _ s 2 (by omega)).trans ?_, by rw [ByteArray.size_append, hz]⟩
  have h4 : bt (strOfNums [116, 0, (s.size : Int)]) ((2 : Nat) : Int) = ((UInt8.ofNat ((s.size : Int)).toNat).toNat : Int) := rfl
  rw [h4, UInt8.toNat_ofNat_of_lt' (by show ((s.size : Int)).toNat < 256; omega)]
  omega
theorem text_ok {s : ByteArray} (h : s.size ≤ 100) : textF s = (strOfNums [116, 0, s.size] ++ s, 0) ∧ Leaf (strOfNums [116, 0, s.size] ++ s) := by
  refine ⟨by unfold textF; rw [if_neg (by omega)], ?_⟩
  obtain ⟨b0, b1, b2, hz⟩ := text_bytes s h
  refine leaf_of ?_ (by omega)
  unfold leafF
  rw [b0, b1, b2, hz]
  simp only [show ¬ ((116 : Int) = 103) from by decide, show ¬ ((116 : Int) = 110 ∨ (116 : Int) = 117) from by decide, show ¬ ((116 : Int) = 105) from by decide, if_false, if_true]
  rw [if_pos ⟨by omega, trivial, by omega, by omega⟩]
  omega

/-! ### What is put together -/
theorem mem2 {P : ByteArray → Prop} {a b : ByteArray} (ha : P a) (hb : P b) : ∀ x ∈ [a, b], P x := by
  intro x hx
  rcases List.mem_cons.mp hx with rfl | hx
  · exact ha
  · rw [List.mem_singleton.mp hx]; exact hb
theorem mem3 {P : ByteArray → Prop} {a b c : ByteArray} (ha : P a) (hb : P b) (hc : P c) : ∀ x ∈ [a, b, c], P x := by
  intro x hx
  rcases List.mem_cons.mp hx with rfl | hx
  · exact ha
  · exact mem2 hb hc x hx
theorem mem1 {P : ByteArray → Prop} {a : ByteArray} (ha : P a) : ∀ x ∈ [a], P x := by
  intro x hx
  rw [List.mem_singleton.mp hx]; exact ha
/-- A right term that is not too deep to be a part. -/
structure Part (m : Int) (t : ByteArray) : Prop where
  right : rightB t = true
  dep : depF t ≤ m
theorem Part.tm {m : Int} {t : ByteArray} (h : Part m t) : Tm t := ((right_iff t).mp h.right).1
theorem Part.size {m : Int} {t : ByteArray} (h : Part m t) : t.size ≤ 20000 := ((right_iff t).mp h.right).2
theorem Part.mono {m n : Int} {t : ByteArray} (h : Part m t) (hmn : m ≤ n) : Part n t := ⟨h.right, by have := h.dep; omega⟩
theorem Leaf.part {t : ByteArray} (h : Leaf t) (hs : t.size ≤ 20000) {m : Int} (hm : 1 ≤ m) : Part m t := ⟨h.right hs, by rw [h.tm.2]; exact hm⟩
/-- What is put together of right parts is as it should be, if it is not too long. -/
theorem node_made {m : Int} (hm : m ≤ 399) {h : ByteArray} {ts : List ByteArray} {pow : Bool} (hh : HeadOf h ts pow) (hp : ∀ x ∈ ts, Part m x) (hr : pow = true → Rises ⟨#[]⟩ ts) (h0 : 0 ≤ m) :
    Node (h ++ cat ts) h ts pow ∧ depF (h ++ cat ts) ≤ m + 1 := by
  have n : Node (h ++ cat ts) h ts pow := ⟨rfl, hh, fun x hx => ⟨(hp x hx).tm, by have := (hp x hx).dep; omega⟩, hr⟩
  refine ⟨n, ?_⟩
  rw [n.tm.2]
  have := deepest_le (m := m) (dep := 0) (ts := ts) (fun t ht => (hp t ht).dep) h0
  omega
theorem ofF_made {m : Int} (hm : m ≤ 399) (h0 : 0 ≤ m) {h : ByteArray} {ts : List ByteArray} (hh : HeadOf h ts false) (hp : ∀ x ∈ ts, Part m x) :
    ofF h ts = (if 20000 < (h ++ cat ts).size then (⟨#[]⟩, 3) else (h ++ cat ts, 0)) ∧ ((h ++ cat ts).size ≤ 20000 → Part (m + 1) (h ++ cat ts)) := by
  obtain ⟨n, hd⟩ := node_made hm hh hp (fun h => absurd h (by simp)) h0
  rw [ofF_ok (fun x hx => (hp x hx).right)]
  refine ⟨?_, fun hs => ⟨node_right n hs, hd⟩⟩
  unfold wholeF
  split
  · rfl
  · rw [if_pos (node_right n (by omega))]
theorem cat1 (a : ByteArray) : cat [a] = a := by simp only [cat]; exact app_nil a
theorem cat2 (a b : ByteArray) : cat [a, b] = a ++ b := by rw [cat, cat1]
theorem cat3 (a b c : ByteArray) : cat [a, b, c] = a ++ (b ++ c) := by rw [cat, cat2]
theorem pair_made {m : Int} (hm : m ≤ 399) (h0 : 0 ≤ m) {a b : ByteArray} (ha : Part m a) (hb : Part m b) (hs : a.size + b.size < 20000) : pairF a b = ((⟨#[112]⟩ : ByteArray) ++ cat [a, b], 0) ∧ Part (m + 1) ((⟨#[112]⟩ : ByteArray) ++ cat [a, b]) := by
  have hz : ((⟨#[112]⟩ : ByteArray) ++ cat [a, b]).size = 1 + (a.size + b.size) := by rw [cat2, ByteArray.size_append, ByteArray.size_append]; rfl
  have := ofF_made hm h0 (HeadOf.pair a b) (mem2 ha hb)
  exact ⟨by unfold pairF; rw [this.1, if_neg (by omega)], this.2 (by omega)⟩
theorem sign_made {m : Int} (hm : m ≤ 399) (h0 : 0 ≤ m) {a b : ByteArray} (ha : Part m a) (hb : Part m b) (hs : a.size + b.size < 20000) : signF a b = ((⟨#[120]⟩ : ByteArray) ++ cat [a, b], 0) ∧ Part (m + 1) ((⟨#[120]⟩ : ByteArray) ++ cat [a, b]) := by
  have hz : ((⟨#[120]⟩ : ByteArray) ++ cat [a, b]).size = 1 + (a.size + b.size) := by rw [cat2, ByteArray.size_append, ByteArray.size_append]; rfl
  have := ofF_made hm h0 (HeadOf.sign a b) (mem2 ha hb)
  exact ⟨by unfold signF; rw [this.1, if_neg (by omega)], this.2 (by omega)⟩
theorem hash_made {m : Int} (hm : m ≤ 399) (h0 : 0 ≤ m) {a : ByteArray} (ha : Part m a) (hs : a.size < 20000) : hashF a = ((⟨#[104]⟩ : ByteArray) ++ cat [a], 0) ∧ Part (m + 1) ((⟨#[104]⟩ : ByteArray) ++ cat [a]) := by
  have hz : ((⟨#[104]⟩ : ByteArray) ++ cat [a]).size = 1 + a.size := by rw [cat1, ByteArray.size_append]; rfl
  have := ofF_made hm h0 (HeadOf.hash a) (mem1 ha)
  exact ⟨by unfold hashF; rw [this.1, if_neg (by omega)], this.2 (by omega)⟩
theorem seal_made {m : Int} (hm : m ≤ 399) (h0 : 0 ≤ m) {a b c : ByteArray} (ha : Part m a) (hb : Part m b) (hc : Part m c) (hs : a.size + b.size + c.size < 20000) : sealF a b c = ((⟨#[115]⟩ : ByteArray) ++ cat [a, b, c], 0) ∧ Part (m + 1) ((⟨#[115]⟩ : ByteArray) ++ cat [a, b, c]) := by
  have hz : ((⟨#[115]⟩ : ByteArray) ++ cat [a, b, c]).size = 1 + (a.size + (b.size + c.size)) := by rw [cat3, ByteArray.size_append, ByteArray.size_append, ByteArray.size_append]; rfl
  have := ofF_made hm h0 (HeadOf.sealed a b c) (mem3 ha hb hc)
  exact ⟨by unfold sealF; rw [this.1, if_neg (by omega)], this.2 (by omega)⟩
theorem key_made {m : Int} (hm : m ≤ 399) (h0 : 0 ≤ m) {a : ByteArray} (ha : Part m a) (hr : (keyF a).2 = 0) : (keyF a).1 = (⟨#[107]⟩ : ByteArray) ++ cat [a] ∧ Part (m + 1) ((⟨#[107]⟩ : ByteArray) ++ cat [a]) ∧ elemB a = true := by
  unfold keyF at hr ⊢
  by_cases c : elemB a = true
  · rw [if_pos c] at hr ⊢
    have hb : bt a 0 = 103 ∨ bt a 0 = 101 := by
      unfold elemB at c
      rw [Bool.and_eq_true, Bool.or_eq_true, beq_iff_eq, beq_iff_eq] at c
      exact c.2
    obtain ⟨n, hd⟩ := node_made hm (HeadOf.key a hb) (mem1 ha) (fun h => absurd h (by simp)) h0
    have hw := whole_ok hr
    rw [cat1] at n hd ⊢
    exact ⟨hw.1, ⟨hw.2.1, hd⟩, c⟩
  · rw [if_neg c] at hr; exact absurd hr (by decide)
/-- The exponents of a right element stand less deep than it. -/
theorem exps_part {m : Int} {a : ByteArray} (ha : elemB a = true) (hp : Part m a) : ∀ x ∈ expsF a, Part (m - 1) x := by
  intro x hx
  have hc := elem_cases ha
  have hx2 := hc.2.2.1 x hx
  refine ⟨(right_iff x).mpr ⟨hx2.1, hx2.2.2⟩, ?_⟩
  have hne : expsF a ≠ [] := fun q => by rw [q] at hx; simp at hx
  have n := elmOf_node hne hc.2.1 (fun y hy => ⟨(hc.2.2.1 y hy).1, (hc.2.2.1 y hy).2.1⟩)
  rw [← hc.1] at n
  have h1 := n.tm.2
  have h2 := (le_deepest (dep := 0) (ts := sortB (expsF a))).2 x ((sortB_perm _).mem_iff.mpr hx)
  have h3 := hp.dep
  omega
theorem pow_made {m : Int} (hm : m ≤ 399) (h0 : 0 ≤ m) {a b : ByteArray} (ha : Part m a) (hb : Part m b) (hr : (powF a b).2 = 0) :
    elemB a = true ∧ (expsF a).length < 32 ∧ (powF a b).1 = elmOf (expsF a ++ [b]) ∧ Part (m + 1) (elmOf (expsF a ++ [b])) := by
  by_cases c : elemB a = true
  · rw [pow_eq c hb.right] at hr ⊢
    by_cases d : 32 < (expsF a).length + 1
    · rw [if_pos d] at hr; exact absurd hr (by decide)
    · rw [if_neg d] at hr ⊢
      have hw := whole_ok hr
      have hpart : ∀ x ∈ expsF a ++ [b], Part m x := by
        intro x hx
        rcases List.mem_append.mp hx with q | q
        · exact (exps_part c ha x q).mono (by omega)
        · rw [List.mem_singleton.mp q]; exact hb
      have n := elmOf_node (l := expsF a ++ [b]) (by simp) (by rw [List.length_append]; simp; omega) (fun x hx => ⟨(hpart x hx).tm, by have := (hpart x hx).dep; omega⟩)
      refine ⟨c, by omega, hw.1, ⟨hw.2.1, ?_⟩⟩
      rw [n.tm.2]
      have := deepest_le (m := m) (dep := 0) (ts := sortB (expsF a ++ [b])) (fun t ht => (hpart t ((sortB_perm _).mem_iff.mp ht)).dep) h0
      omega
  · unfold powF at hr
    rw [if_neg c] at hr; exact absurd hr (by decide)

/-! ### Raw numbers -/
def absF (c : Int) : Int := if c < 0 then -(c + 1) else c
def pickF (c n : Int) : Int := absF c % n
theorem pickF_range (c : Int) {n : Int} (h : 0 < n) : 0 ≤ pickF c n ∧ pickF c n < n := ⟨Int.emod_nonneg _ (by omega), Int.emod_lt_of_pos _ h⟩
theorem absF_range {c : Int} (h : -9223372036854775808 ≤ c ∧ c ≤ 9223372036854775807) : 0 ≤ absF c ∧ absF c ≤ 9223372036854775807 := by unfold absF; split <;> omega
def ab (j : Int) : ByteArray := (⟨#[97, 98]⟩ : ByteArray).extract 0 j.toNat
/-- A term of a raw number. -/
def nameT (n : Int) : ByteArray :=
  if absF n % 6 = 0 ∨ absF n % 6 = 1 then nameF (absF n / 6 % 5) else if absF n % 6 = 2 then numF (absF n / 6 % 5) else if absF n % 6 = 3 then (privF (1 + absF n / 6 % 5)).1
  else if absF n % 6 = 4 then (textF (ab (absF n / 6 % 5 % 3))).1 else ⟨#[103]⟩
theorem ab_size (j : Int) : (ab j).size ≤ 2 := by
  unfold ab
  rw [ByteArray.size_extract]
  show min _ 2 - 0 ≤ 2
  omega
theorem nameT_leaf (n : Int) : Leaf (nameT n) ∧ (nameT n).size ≤ 9 := by
  unfold nameT
  have h5 : 0 ≤ absF n / 6 % 5 ∧ absF n / 6 % 5 < 5 := ⟨Int.emod_nonneg _ (by omega), Int.emod_lt_of_pos _ (by omega)⟩
  split
  · exact ⟨name_leaf _, Nat.le_refl _⟩
  split
  · exact ⟨num_leaf _, Nat.le_refl _⟩
  split
  · have := priv_ok (p := 1 + absF n / 6 % 5) (by omega) (by omega)
    rw [this.1]
    exact ⟨this.2, by show 2 ≤ 9; omega⟩
  split
  · have hs := ab_size (absF n / 6 % 5 % 3)
    have := text_ok (s := ab (absF n / 6 % 5 % 3)) (by omega)
    rw [this.1]
    exact ⟨this.2, by rw [(text_bytes _ (by omega)).2.2.2]; omega⟩
  · exact ⟨gen_leaf, by show 1 ≤ 9; omega⟩
def atF (l : List ByteArray) (i : Int) : ByteArray := rdOf ByteArray.empty l i
/-- What a step makes, or what is wrong. -/
def resT (out : List ByteArray) (x : Int × Int × Int × Int) : ByteArray × Int :=
  let a := atF out (pickF x.2.1 out.length); let b := atF out (pickF x.2.2.1 out.length); let c := atF out (pickF x.2.2.2 out.length)
  if pickF x.1 10 = 1 ∨ pickF x.1 10 = 2 ∨ pickF x.1 10 = 3 then powF a b else if pickF x.1 10 = 4 then keyF a else if pickF x.1 10 = 5 ∨ pickF x.1 10 = 6 then pairF a b
  else if pickF x.1 10 = 7 then hashF a else if pickF x.1 10 = 8 then sealF a b c else if pickF x.1 10 = 9 then signF a b else (nameT x.2.1, 0)
def pickT (r : ByteArray × Int) (b : Int) : ByteArray := if r.2 = 0 ∧ r.1.size ≤ 600 then r.1 else nameT b
def mstepT (out : List ByteArray) (x : Int × Int × Int × Int) : List ByteArray := out ++ [pickT (resT out x) x.2.2.1]
def madeT (l : List (Int × Int × Int × Int)) : List ByteArray := (l.take 40).foldl mstepT [⟨#[103]⟩, nameT 1]
/-- What holds of terms that are made: right, short, no deeper than they are many. -/
structure MadeOk (out : List ByteArray) : Prop where
  two : 2 ≤ out.length
  small : ∀ t ∈ out, t.size ≤ 600
  part : ∀ t ∈ out, Part out.length t
theorem atF_mem {l : List ByteArray} {i : Int} (h0 : 0 ≤ i) (h : i < l.length) : atF l i ∈ l := by
  unfold atF rdOf
  rw [List.getD_eq_getElem?_getD, List.getElem?_eq_getElem (by omega)]
  exact List.getElem_mem _
theorem mstepT_ok {out : List ByteArray} (h : MadeOk out) (hl : out.length ≤ 100) (x : Int × Int × Int × Int) : MadeOk (mstepT out x) := by
  have h2 := h.two
  have hpos : (0 : Int) < (out.length : Int) := by omega
  have hm : ∀ c : Int, atF out (pickF c out.length) ∈ out := fun c => atF_mem (pickF_range c hpos).1 (pickF_range c hpos).2
  have hnew : (pickT (resT out x) x.2.2.1).size ≤ 600 ∧ Part (out.length + 1) (pickT (resT out x) x.2.2.1) := by
    unfold pickT
    split
    case isFalse =>
      have := nameT_leaf x.2.2.1
      exact ⟨by omega, this.1.part (by omega) (by omega)⟩
    rename_i hr
    refine ⟨hr.2, ?_⟩
    have hr := hr.1
    obtain ⟨a, ha⟩ : ∃ a, a = atF out (pickF x.2.1 out.length) := ⟨_, rfl⟩
    obtain ⟨b, hb⟩ : ∃ b, b = atF out (pickF x.2.2.1 out.length) := ⟨_, rfl⟩
    obtain ⟨c, hc⟩ : ∃ c, c = atF out (pickF x.2.2.2 out.length) := ⟨_, rfl⟩
    have ma := hm x.2.1
    have mb := hm x.2.2.1
    have mc := hm x.2.2.2
    unfold resT at hr ⊢
    simp only at hr ⊢
    rw [← ha] at ma hr ⊢
    rw [← hb] at mb hr ⊢
    rw [← hc] at mc hr ⊢
    have sa := h.small a ma
    have sb := h.small b mb
    have sc := h.small c mc
    have pa := h.part a ma
    have pb := h.part b mb
    have pc := h.part c mc
    split at hr
    · rename_i q
      rw [if_pos q]
      have := pow_made (by omega) (by omega) pa pb hr
      rw [this.2.2.1]; exact this.2.2.2
    rename_i q1
    rw [if_neg q1]
    split at hr
    · rename_i q
      rw [if_pos q]
      have := key_made (by omega) (by omega) pa hr
      rw [this.1]; exact this.2.1
    rename_i q2
    rw [if_neg q2]
    split
    · have := pair_made (by omega) (by omega) pa pb (by omega)
      rw [this.1]; exact this.2
    split
    · have := hash_made (by omega) (by omega) pa (by omega)
      rw [this.1]; exact this.2
    split
    · have := seal_made (by omega) (by omega) pa pb pc (by omega)
      rw [this.1]; exact this.2
    split
    · have := sign_made (by omega) (by omega) pa pb (by omega)
      rw [this.1]; exact this.2
    · have := nameT_leaf x.2.1
      exact this.1.part (by omega) (by omega)
  unfold mstepT
  refine ⟨by rw [List.length_append]; omega, ?_, ?_⟩
  · intro t ht
    rcases List.mem_append.mp ht with q | q
    · exact h.small t q
    · rw [List.mem_singleton.mp q]; exact hnew.1
  · intro t ht
    rw [List.length_append]
    rcases List.mem_append.mp ht with q | q
    · exact (h.part t q).mono (by simp; omega)
    · rw [List.mem_singleton.mp q]
      exact hnew.2.mono (by simp)
theorem fold_ok : ∀ (l : List (Int × Int × Int × Int)) (out : List ByteArray), MadeOk out → out.length + l.length ≤ 100 → MadeOk (l.foldl mstepT out) ∧ (l.foldl mstepT out).length = out.length + l.length
  | [], out, h, _ => ⟨h, rfl⟩
  | x :: l, out, h, hl => by
    rw [List.length_cons] at hl
    have h1 := mstepT_ok h (by omega) x
    have h2 : (mstepT out x).length = out.length + 1 := by unfold mstepT; rw [List.length_append]; rfl
    have := fold_ok l (mstepT out x) h1 (by omega)
    rw [List.foldl_cons, List.length_cons]
    exact ⟨this.1, by omega⟩
theorem made_start : MadeOk [⟨#[103]⟩, nameT 1] := by
  have h1 := nameT_leaf 1
  refine ⟨Nat.le_refl _, mem2 (by decide) (by omega), mem2 (gen_leaf.part (by decide) (by decide)) (h1.1.part (by omega) (by decide))⟩
theorem madeT_ok (l : List (Int × Int × Int × Int)) : MadeOk (madeT l) ∧ (madeT l).length ≤ 42 := by
  have := fold_ok (l.take 40) _ made_start (by rw [List.length_take]; show 2 + _ ≤ _; omega)
  refine ⟨this.1, ?_⟩
  have h2 := this.2
  rw [List.length_take] at h2
  unfold madeT
  rw [h2]
  show 2 + _ ≤ _
  omega
theorem MadeOk.at_ {out : List ByteArray} (h : MadeOk out) (hl : out.length ≤ 42) (c : Int) : Part 42 (atF out (pickF c out.length)) ∧ (atF out (pickF c out.length)).size ≤ 600 := by
  have h2 := h.two
  have hpos : (0 : Int) < (out.length : Int) := by omega
  have hm : atF out (pickF c out.length) ∈ out := atF_mem (pickF_range c hpos).1 (pickF_range c hpos).2
  exact ⟨(h.part _ hm).mono (by omega), h.small _ hm⟩
end Go.Proofs.Ytpfpmjdifnoeoaa.Pure
namespace Go.Proofs.Ytpfpmjdifnoeoaa.F
open Go.RowKit Go.Proofs.YtpfpmjdifnoeoaaW.PrintWords Go.Proofs.YtpfpmjdifnoeoaaW.PrintLast Go.Proofs.YtpfpmjdifnoeoaaW.PrintMore
attribute [local go_sem] max2_int min2_int max_two min_two max_three min_three max_four min_four
set_option linter.unusedVariables false
set_option linter.unusedSimpArgs false

/-! ### gemotlaw1_shown: function 78 -/
/-! #### gemotlaw1_shown_p: function 78 -/
def gemotlaw1_shown_p.f  : Option (Bool) := (term_Gen.f).bind fun t786 => ((term_Name.f 2).bind fun t787 => ((term_Power.f t786 t787).bind fun bt788 => ((term_Name.f 1).bind fun t790 => ((term_Power.f bt788.1 t790).bind fun bt791 => (if bt788.2 = 0 then (if bt791.2 = 0 then (some (bt791.1.toList == ([101, 2, 110, 0, 0, 0, 0, 0, 0, 0, 1, 110, 0, 0, 0, 0, 0, 0, 0, 2] : List UInt8))) else (some false)) else (some false))))))
set_option maxHeartbeats 8000000 in
set_option maxRecDepth 100000 in
theorem gemotlaw1_shown_p.calls  (r : Bool) (w : World) (h : gemotlaw1_shown_p.f  = some r) :
    Calls Try.prog 78 #[] w fun e w' => e = .returned (.bool r) ∧ Below w.heap.size w w' := by
  have HB := Aside0.mk (Below.refl w.heap.size w)
  have H : ((term_Gen.f).bind fun t786 => ((term_Name.f 2).bind fun t787 => ((term_Power.f t786 t787).bind fun bt788 => ((term_Name.f 1).bind fun t790 => ((term_Power.f bt788.1 t790).bind fun bt791 => (if bt788.2 = 0 then (if bt791.2 = 0 then (some (bt791.1.toList == ([101, 2, 110, 0, 0, 0, 0, 0, 0, 0, 1, 110, 0, 0, 0, 0, 0, 0, 0, 2] : List UInt8))) else (some false)) else (some false))))))) = some r := h
  clear h
  replace H := Option.bind_eq_some_iff.mp H
  obtain ⟨t786, A10, H⟩ := H
  replace H : ((term_Name.f 2).bind fun t787 => ((term_Power.f t786 t787).bind fun bt788 => ((term_Name.f 1).bind fun t790 => ((term_Power.f bt788.1 t790).bind fun bt791 => (if bt788.2 = 0 then (if bt791.2 = 0 then (some (bt791.1.toList == ([101, 2, 110, 0, 0, 0, 0, 0, 0, 0, 1, 110, 0, 0, 0, 0, 0, 0, 0, 2] : List UInt8))) else (some false)) else (some false)))))) = some r := H
  have A1 := Aside0.mk A10
  clear A10
  replace H := Option.bind_eq_some_iff.mp H
  obtain ⟨t787, A20, H⟩ := H
  replace H : ((term_Power.f t786 t787).bind fun bt788 => ((term_Name.f 1).bind fun t790 => ((term_Power.f bt788.1 t790).bind fun bt791 => (if bt788.2 = 0 then (if bt791.2 = 0 then (some (bt791.1.toList == ([101, 2, 110, 0, 0, 0, 0, 0, 0, 0, 1, 110, 0, 0, 0, 0, 0, 0, 0, 2] : List UInt8))) else (some false)) else (some false))))) = some r := H
  have A2 := Aside0.mk A20
  clear A20
  replace H := Option.bind_eq_some_iff.mp H
  obtain ⟨⟨t788, t789⟩, A30, H⟩ := H
  replace H : ((term_Name.f 1).bind fun t790 => ((term_Power.f t788 t790).bind fun bt791 => (if t789 = 0 then (if bt791.2 = 0 then (some (bt791.1.toList == ([101, 2, 110, 0, 0, 0, 0, 0, 0, 0, 1, 110, 0, 0, 0, 0, 0, 0, 0, 2] : List UInt8))) else (some false)) else (some false)))) = some r := H
  have A3 := Aside0.mk A30
  clear A30
  replace H := Option.bind_eq_some_iff.mp H
  obtain ⟨t790, A40, H⟩ := H
  replace H : ((term_Power.f t788 t790).bind fun bt791 => (if t789 = 0 then (if bt791.2 = 0 then (some (bt791.1.toList == ([101, 2, 110, 0, 0, 0, 0, 0, 0, 0, 1, 110, 0, 0, 0, 0, 0, 0, 0, 2] : List UInt8))) else (some false)) else (some false))) = some r := H
  have A4 := Aside0.mk A40
  clear A40
  replace H := Option.bind_eq_some_iff.mp H
  obtain ⟨⟨t791, t792⟩, A50, H⟩ := H
  replace H : (if t789 = 0 then (if t792 = 0 then (some (t791.toList == ([101, 2, 110, 0, 0, 0, 0, 0, 0, 0, 1, 110, 0, 0, 0, 0, 0, 0, 0, 2] : List UInt8))) else (some false)) else (some false)) = some r := H
  have A5 := Aside0.mk A50
  clear A50
  by_cases c6 : t789 = 0
  · rw [if_pos c6] at H
    have c6b0 : (t789 == 0) = true := beq_iff_eq.mpr c6
    have c6b1 : (t789 != 0) = false := bne_eq_false_iff_eq.mpr c6
    clear c6
    by_cases c7 : t792 = 0
    · rw [if_pos c7] at H
      have c7b0 : (t792 == 0) = true := beq_iff_eq.mpr c7
      have c7b1 : (t792 != 0) = false := bne_eq_false_iff_eq.mpr c7
      clear c7
      obtain rfl := Option.some.inj H
      go_enter Try.func78, Try.ntmps78
      go_wp2_with (first | ((with_reducible refine gate_callee (f := 86) rfl ?_); refine goesL_ (some 6) rfl rfl Try.func86 (by kernel_rfl) rfl #[] rfl (by (try simp only [List.map_toArray, List.map_cons, List.map_nil]); first | done | rfl | (simp only [List.length_drop, List.length_take]; rfl)) ?_; (with_reducible refine (term_Gen.calls  t786 _ A1.out).mono ?_); rintro e w' ⟨rfl, ⟨nd, rfl⟩⟩; refine ⟨_, rfl, ?_⟩) | ((with_reducible refine gate_callee (f := 65) rfl ?_); refine goesL_ (some 7) rfl rfl Try.func65 (by kernel_rfl) rfl #[.int .u64 2] rfl (by (try simp only [List.map_toArray, List.map_cons, List.map_nil]); first | done | rfl | (simp only [List.length_drop, List.length_take]; rfl)) ?_; (with_reducible refine (term_Name.calls 2 t787 _ A2.out).mono ?_); rintro e w8 ⟨rfl, hb⟩; refine ⟨_, rfl, ?_⟩; have n0_ := Aside0.mk (below_step (by repeat (first | (with_reducible first | exact HB.out | apply below_alloc | apply pw_below_drewN | apply below_drew1) | exact HB.out)) hb); clear HB; have HB := n0_; clear n0_; (try clear hb); (try clear hb2); (try clear hk); (try clear hi)) | ((with_reducible refine gate_callee (f := 88) rfl ?_); refine goesL_ (some 8) rfl rfl Try.func88 (by kernel_rfl) rfl #[.string t786, .string t787] rfl (by (try simp only [List.map_toArray, List.map_cons, List.map_nil]); first | done | rfl | (simp only [List.length_drop, List.length_take]; rfl)) ?_; (with_reducible refine (term_Power.calls t786 t787 t788 t789 _ A3.out).mono ?_); rintro e w9 ⟨rfl, hb⟩; refine ⟨_, rfl, ?_⟩; have n0_ := Aside0.mk (below_step (by repeat (first | (with_reducible first | exact HB.out | apply below_alloc | apply pw_below_drewN | apply below_drew1) | exact HB.out)) hb); clear HB; have HB := n0_; clear n0_; (try clear hb); (try clear hb2); (try clear hk); (try clear hi)) | ((with_reducible refine gate_callee (f := 65) rfl ?_); refine goesL_ (some 13) rfl rfl Try.func65 (by kernel_rfl) rfl #[.int .u64 1] rfl (by (try simp only [List.map_toArray, List.map_cons, List.map_nil]); first | done | rfl | (simp only [List.length_drop, List.length_take]; rfl)) ?_; (with_reducible refine (term_Name.calls 1 t790 _ A4.out).mono ?_); rintro e w10 ⟨rfl, hb⟩; refine ⟨_, rfl, ?_⟩; have n0_ := Aside0.mk (below_step (by repeat (first | (with_reducible first | exact HB.out | apply below_alloc | apply pw_below_drewN | apply below_drew1) | exact HB.out)) hb); clear HB; have HB := n0_; clear n0_; (try clear hb); (try clear hb2); (try clear hk); (try clear hi)) | ((with_reducible refine gate_callee (f := 88) rfl ?_); refine goesL_ (some 14) rfl rfl Try.func88 (by kernel_rfl) rfl #[.string t788, .string t790] rfl (by (try simp only [List.map_toArray, List.map_cons, List.map_nil]); first | done | rfl | (simp only [List.length_drop, List.length_take]; rfl)) ?_; (with_reducible refine (term_Power.calls t788 t790 t791 t792 _ A5.out).mono ?_); rintro e w11 ⟨rfl, hb⟩; refine ⟨_, rfl, ?_⟩; have n0_ := Aside0.mk (below_step (by repeat (first | (with_reducible first | exact HB.out | apply below_alloc | apply pw_below_drewN | apply below_drew1) | exact HB.out)) hb); clear HB; have HB := n0_; clear n0_; (try clear hb); (try clear hb2); (try clear hk); (try clear hi)))
      go_ret
      exact ⟨by first | rfl | (simp [errW_none, errW_some] <;> rfl) | (simp [*, errW_none, errW_some] <;> rfl), by repeat (first | (with_reducible first | exact HB.out | apply below_alloc | apply pw_below_drewN | apply below_drew1) | exact HB.out)⟩
    · rw [if_neg c7] at H
      have c7b0 : (t792 == 0) = false := beq_eq_false_iff_ne.mpr c7
      have c7b1 : (t792 != 0) = true := bne_iff_ne.mpr c7
      obtain rfl := Option.some.inj H
      go_enter Try.func78, Try.ntmps78
      go_wp2_with (first | ((with_reducible refine gate_callee (f := 86) rfl ?_); refine goesL_ (some 6) rfl rfl Try.func86 (by kernel_rfl) rfl #[] rfl (by (try simp only [List.map_toArray, List.map_cons, List.map_nil]); first | done | rfl | (simp only [List.length_drop, List.length_take]; rfl)) ?_; (with_reducible refine (term_Gen.calls  t786 _ A1.out).mono ?_); rintro e w' ⟨rfl, ⟨nd, rfl⟩⟩; refine ⟨_, rfl, ?_⟩) | ((with_reducible refine gate_callee (f := 65) rfl ?_); refine goesL_ (some 7) rfl rfl Try.func65 (by kernel_rfl) rfl #[.int .u64 2] rfl (by (try simp only [List.map_toArray, List.map_cons, List.map_nil]); first | done | rfl | (simp only [List.length_drop, List.length_take]; rfl)) ?_; (with_reducible refine (term_Name.calls 2 t787 _ A2.out).mono ?_); rintro e w12 ⟨rfl, hb⟩; refine ⟨_, rfl, ?_⟩; have n0_ := Aside0.mk (below_step (by repeat (first | (with_reducible first | exact HB.out | apply below_alloc | apply pw_below_drewN | apply below_drew1) | exact HB.out)) hb); clear HB; have HB := n0_; clear n0_; (try clear hb); (try clear hb2); (try clear hk); (try clear hi)) | ((with_reducible refine gate_callee (f := 88) rfl ?_); refine goesL_ (some 8) rfl rfl Try.func88 (by kernel_rfl) rfl #[.string t786, .string t787] rfl (by (try simp only [List.map_toArray, List.map_cons, List.map_nil]); first | done | rfl | (simp only [List.length_drop, List.length_take]; rfl)) ?_; (with_reducible refine (term_Power.calls t786 t787 t788 t789 _ A3.out).mono ?_); rintro e w13 ⟨rfl, hb⟩; refine ⟨_, rfl, ?_⟩; have n0_ := Aside0.mk (below_step (by repeat (first | (with_reducible first | exact HB.out | apply below_alloc | apply pw_below_drewN | apply below_drew1) | exact HB.out)) hb); clear HB; have HB := n0_; clear n0_; (try clear hb); (try clear hb2); (try clear hk); (try clear hi)) | ((with_reducible refine gate_callee (f := 65) rfl ?_); refine goesL_ (some 13) rfl rfl Try.func65 (by kernel_rfl) rfl #[.int .u64 1] rfl (by (try simp only [List.map_toArray, List.map_cons, List.map_nil]); first | done | rfl | (simp only [List.length_drop, List.length_take]; rfl)) ?_; (with_reducible refine (term_Name.calls 1 t790 _ A4.out).mono ?_); rintro e w14 ⟨rfl, hb⟩; refine ⟨_, rfl, ?_⟩; have n0_ := Aside0.mk (below_step (by repeat (first | (with_reducible first | exact HB.out | apply below_alloc | apply pw_below_drewN | apply below_drew1) | exact HB.out)) hb); clear HB; have HB := n0_; clear n0_; (try clear hb); (try clear hb2); (try clear hk); (try clear hi)) | ((with_reducible refine gate_callee (f := 88) rfl ?_); refine goesL_ (some 14) rfl rfl Try.func88 (by kernel_rfl) rfl #[.string t788, .string t790] rfl (by (try simp only [List.map_toArray, List.map_cons, List.map_nil]); first | done | rfl | (simp only [List.length_drop, List.length_take]; rfl)) ?_; (with_reducible refine (term_Power.calls t788 t790 t791 t792 _ A5.out).mono ?_); rintro e w15 ⟨rfl, hb⟩; refine ⟨_, rfl, ?_⟩; have n0_ := Aside0.mk (below_step (by repeat (first | (with_reducible first | exact HB.out | apply below_alloc | apply pw_below_drewN | apply below_drew1) | exact HB.out)) hb); clear HB; have HB := n0_; clear n0_; (try clear hb); (try clear hb2); (try clear hk); (try clear hi)))
      go_ret
      exact ⟨by first | rfl | (simp [errW_none, errW_some] <;> rfl) | (simp [*, errW_none, errW_some] <;> rfl), by repeat (first | (with_reducible first | exact HB.out | apply below_alloc | apply pw_below_drewN | apply below_drew1) | exact HB.out)⟩
  · rw [if_neg c6] at H
    have c6b0 : (t789 == 0) = false := beq_eq_false_iff_ne.mpr c6
    have c6b1 : (t789 != 0) = true := bne_iff_ne.mpr c6
    obtain rfl := Option.some.inj H
    go_enter Try.func78, Try.ntmps78
    go_wp2_with (first | ((with_reducible refine gate_callee (f := 86) rfl ?_); refine goesL_ (some 6) rfl rfl Try.func86 (by kernel_rfl) rfl #[] rfl (by (try simp only [List.map_toArray, List.map_cons, List.map_nil]); first | done | rfl | (simp only [List.length_drop, List.length_take]; rfl)) ?_; (with_reducible refine (term_Gen.calls  t786 _ A1.out).mono ?_); rintro e w' ⟨rfl, ⟨nd, rfl⟩⟩; refine ⟨_, rfl, ?_⟩) | ((with_reducible refine gate_callee (f := 65) rfl ?_); refine goesL_ (some 7) rfl rfl Try.func65 (by kernel_rfl) rfl #[.int .u64 2] rfl (by (try simp only [List.map_toArray, List.map_cons, List.map_nil]); first | done | rfl | (simp only [List.length_drop, List.length_take]; rfl)) ?_; (with_reducible refine (term_Name.calls 2 t787 _ A2.out).mono ?_); rintro e w16 ⟨rfl, hb⟩; refine ⟨_, rfl, ?_⟩; have n0_ := Aside0.mk (below_step (by repeat (first | (with_reducible first | exact HB.out | apply below_alloc | apply pw_below_drewN | apply below_drew1) | exact HB.out)) hb); clear HB; have HB := n0_; clear n0_; (try clear hb); (try clear hb2); (try clear hk); (try clear hi)) | ((with_reducible refine gate_callee (f := 88) rfl ?_); refine goesL_ (some 8) rfl rfl Try.func88 (by kernel_rfl) rfl #[.string t786, .string t787] rfl (by (try simp only [List.map_toArray, List.map_cons, List.map_nil]); first | done | rfl | (simp only [List.length_drop, List.length_take]; rfl)) ?_; (with_reducible refine (term_Power.calls t786 t787 t788 t789 _ A3.out).mono ?_); rintro e w17 ⟨rfl, hb⟩; refine ⟨_, rfl, ?_⟩; have n0_ := Aside0.mk (below_step (by repeat (first | (with_reducible first | exact HB.out | apply below_alloc | apply pw_below_drewN | apply below_drew1) | exact HB.out)) hb); clear HB; have HB := n0_; clear n0_; (try clear hb); (try clear hb2); (try clear hk); (try clear hi)) | ((with_reducible refine gate_callee (f := 65) rfl ?_); refine goesL_ (some 13) rfl rfl Try.func65 (by kernel_rfl) rfl #[.int .u64 1] rfl (by (try simp only [List.map_toArray, List.map_cons, List.map_nil]); first | done | rfl | (simp only [List.length_drop, List.length_take]; rfl)) ?_; (with_reducible refine (term_Name.calls 1 t790 _ A4.out).mono ?_); rintro e w18 ⟨rfl, hb⟩; refine ⟨_, rfl, ?_⟩; have n0_ := Aside0.mk (below_step (by repeat (first | (with_reducible first | exact HB.out | apply below_alloc | apply pw_below_drewN | apply below_drew1) | exact HB.out)) hb); clear HB; have HB := n0_; clear n0_; (try clear hb); (try clear hb2); (try clear hk); (try clear hi)) | ((with_reducible refine gate_callee (f := 88) rfl ?_); refine goesL_ (some 14) rfl rfl Try.func88 (by kernel_rfl) rfl #[.string t788, .string t790] rfl (by (try simp only [List.map_toArray, List.map_cons, List.map_nil]); first | done | rfl | (simp only [List.length_drop, List.length_take]; rfl)) ?_; (with_reducible refine (term_Power.calls t788 t790 t791 t792 _ A5.out).mono ?_); rintro e w19 ⟨rfl, hb⟩; refine ⟨_, rfl, ?_⟩; have n0_ := Aside0.mk (below_step (by repeat (first | (with_reducible first | exact HB.out | apply below_alloc | apply pw_below_drewN | apply below_drew1) | exact HB.out)) hb); clear HB; have HB := n0_; clear n0_; (try clear hb); (try clear hb2); (try clear hk); (try clear hi)))
    go_ret
    exact ⟨by first | rfl | (simp [errW_none, errW_some] <;> rfl) | (simp [*, errW_none, errW_some] <;> rfl), by repeat (first | (with_reducible first | exact HB.out | apply below_alloc | apply pw_below_drewN | apply below_drew1) | exact HB.out)⟩

open Go.Proofs.Ytpfpmjdifnoeoaa.Pure
def gemotlaw1_shown.f : Option Bool := some true
theorem gemotlaw1_shown.eq : gemotlaw1_shown_p.f = some true := by
  have hn : ∀ x ∈ [nameF 2], Tm x ∧ depF x ≤ 399 := mem1 ⟨(name_leaf 2).tm.1, by rw [(name_leaf 2).tm.2]; decide⟩
  have h1 : powF ⟨#[103]⟩ (nameF 2) = (elmOf [nameF 2], 0) := by
    rw [pow_eq gen_elem.1 ((name_leaf 2).right (by rw [name_size]; omega)), gen_elem.2, if_neg (by decide), List.nil_append, whole_right]
    exact node_right (elmOf_node (by simp) (by decide) hn) (by rw [elmOf_size (by simp), cat1]; show 2 + 9 ≤ _; omega)
  have h2 := elem_of_node (l := [nameF 2]) (by simp) (by decide) hn (by rw [elmOf_size (by simp), cat1]; show 2 + 9 ≤ _; omega)
  have hs : sortB [nameF 2] = [nameF 2] := sortB_of_sorted (List.pairwise_singleton _ _)
  rw [hs] at h2
  have hn2 : ∀ x ∈ [nameF 2, nameF 1], Tm x ∧ depF x ≤ 399 := mem2 ⟨(name_leaf 2).tm.1, by rw [(name_leaf 2).tm.2]; decide⟩ ⟨(name_leaf 1).tm.1, by rw [(name_leaf 1).tm.2]; decide⟩
  have h3 : powF (elmOf [nameF 2]) (nameF 1) = (elmOf [nameF 2, nameF 1], 0) := by
    rw [pow_eq h2.1 ((name_leaf 1).right (by rw [name_size]; omega)), h2.2, if_neg (by decide), whole_right]
    · rfl
    · exact node_right (elmOf_node (by simp) (by decide) hn2) (by rw [elmOf_size (by simp), show [nameF 2] ++ [nameF 1] = [nameF 2, nameF 1] from rfl, cat2, ByteArray.size_append]; show 2 + (9 + 9) ≤ _; omega)
  have hs2 : sortB [nameF 2, nameF 1] = [nameF 1, nameF 2] := by
    have : bl (nameF 1) ≤ bl (nameF 2) := by decide
    rw [sortB_of_perm (List.Perm.swap (nameF 1) (nameF 2) [])]
    exact sortB_of_sorted (List.pairwise_cons.mpr ⟨fun y hy => by rw [List.mem_singleton.mp hy]; exact this, List.pairwise_singleton _ _⟩)
  have h4 : (elmOf [nameF 2, nameF 1]).toList = [101, 2, 110, 0, 0, 0, 0, 0, 0, 0, 1, 110, 0, 0, 0, 0, 0, 0, 0, 2] := by
    unfold elmOf
    rw [if_neg (by simp), hs2, cat2, ByteArray.toList_eq, ByteArray.data_append, ByteArray.data_append]
    rfl
  unfold gemotlaw1_shown_p.f term_Gen.f term_Name.f term_Power.f
  simp only [Option.bind_some]
  rw [if_pos ⟨by decide, by rw [name_size]; omega⟩, h1]
  simp only [Option.bind_some]
  rw [if_pos ⟨by rw [elmOf_size (by simp), cat1]; show 2 + 9 < _; omega, by rw [name_size]; omega⟩, h3]
  simp only [Option.bind_some, if_true]
  rw [h4]
  rfl
theorem gemotlaw1_shown.calls (r : Bool) (w : World) (h : gemotlaw1_shown.f = some r) :
    Calls Try.prog 78 #[] w fun e w' => e = .returned (.bool r) ∧ Below w.heap.size w w' :=
  gemotlaw1_shown_p.calls r w (gemotlaw1_shown.eq.trans h)

end Go.Proofs.Ytpfpmjdifnoeoaa.F
namespace Go.Proofs.Ytpfpmjdifnoeoaa.F
open Go.RowKit Go.Proofs.YtpfpmjdifnoeoaaW.PrintWords Go.Proofs.YtpfpmjdifnoeoaaW.PrintLast Go.Proofs.YtpfpmjdifnoeoaaW.PrintMore
attribute [local go_sem] max2_int min2_int max_two min_two max_three min_three max_four min_four
set_option linter.unusedVariables false
set_option linter.unusedSimpArgs false

/-! ### gemotref1_Take: function 152 -/
/-! #### gemotref1_Take_p: function 152 -/
def gemotref1_Take_p.f (a0 : ByteArray) : Option (ByteArray × ByteArray × Int) := (gemotref1_End.f a0 0 400).bind fun bt124 => (if bt124.1 = (-1) then (some ((⟨#[]⟩ : ByteArray), (⟨#[]⟩ : ByteArray), 2)) else (if bt124.1 = (-2) then (some ((⟨#[]⟩ : ByteArray), (⟨#[]⟩ : ByteArray), 4)) else (if bt124.1 > 20000 then (some ((⟨#[]⟩ : ByteArray), (⟨#[]⟩ : ByteArray), 3)) else (if 0 ≤ bt124.1 then (if bt124.1 ≤ (a0.size : Int) then (some (a0.extract 0 (bt124.1 : Int).toNat, a0.extract (bt124.1 : Int).toNat a0.size, 0)) else (none)) else (none)))))
set_option maxHeartbeats 8000000 in
set_option maxRecDepth 100000 in
theorem gemotref1_Take_p.calls (a0 : ByteArray) (r1 : ByteArray) (r2 : ByteArray) (r3 : Int) (w : World) (h : gemotref1_Take_p.f a0 = some (r1, r2, r3)) :
    Calls Try.prog 152 #[.string a0] w fun e w' => e = .returned (.tuple #[.string r1, .string r2, .int .i64 r3]) ∧ Below w.heap.size w w' := by
  have HB := Aside0.mk (Below.refl w.heap.size w)
  have H : ((gemotref1_End.f a0 0 400).bind fun bt124 => (if bt124.1 = (-1) then (some ((⟨#[]⟩ : ByteArray), (⟨#[]⟩ : ByteArray), 2)) else (if bt124.1 = (-2) then (some ((⟨#[]⟩ : ByteArray), (⟨#[]⟩ : ByteArray), 4)) else (if bt124.1 > 20000 then (some ((⟨#[]⟩ : ByteArray), (⟨#[]⟩ : ByteArray), 3)) else (if 0 ≤ bt124.1 then (if bt124.1 ≤ (a0.size : Int) then (some (a0.extract 0 (bt124.1 : Int).toNat, a0.extract (bt124.1 : Int).toNat a0.size, 0)) else (none)) else (none)))))) = some (r1, r2, r3) := h
  clear h
  replace H := Option.bind_eq_some_iff.mp H
  obtain ⟨⟨t124, t125⟩, A20, H⟩ := H
  replace H : (if t124 = (-1) then (some ((⟨#[]⟩ : ByteArray), (⟨#[]⟩ : ByteArray), 2)) else (if t124 = (-2) then (some ((⟨#[]⟩ : ByteArray), (⟨#[]⟩ : ByteArray), 4)) else (if t124 > 20000 then (some ((⟨#[]⟩ : ByteArray), (⟨#[]⟩ : ByteArray), 3)) else (if 0 ≤ t124 then (if t124 ≤ (a0.size : Int) then (some (a0.extract 0 (t124 : Int).toNat, a0.extract (t124 : Int).toNat a0.size, 0)) else (none)) else (none))))) = some (r1, r2, r3) := H
  have A2 := Aside0.mk A20
  clear A20
  by_cases c3 : t124 = (-1)
  · rw [if_pos c3] at H
    have c3b0 : (t124 == (-1)) = true := beq_iff_eq.mpr c3
    have c3b1 : (t124 != (-1)) = false := bne_eq_false_iff_eq.mpr c3
    clear c3
    simp only [Option.some.injEq, Prod.mk.injEq] at H
    obtain ⟨rfl, rfl, rfl⟩ := H
    go_enter Try.func152, Try.ntmps152
    go_wp2_with (first | (go_at_call 126; (with_reducible refine (gemotref1_End.calls a0 0 400 t124 t125 _ A2.out).mono ?_); rintro e w4 ⟨rfl, hb⟩; have n0_ := Aside0.mk (below_step (by repeat (first | (with_reducible first | exact HB.out | apply below_alloc | apply pw_below_drewN | apply below_drew1) | exact HB.out)) hb); clear HB; have HB := n0_; clear n0_; (try clear hb); (try clear hb2); (try clear hk); (try clear hi)))
    repeat (go_quiet (first | (go_at_call 126; (with_reducible refine (gemotref1_End.calls a0 0 400 t124 t125 _ A2.out).mono ?_); rintro e w4 ⟨rfl, hb⟩; have n0_ := Aside0.mk (below_step (by repeat (first | (with_reducible first | exact HB.out | apply below_alloc | apply pw_below_drewN | apply below_drew1) | exact HB.out)) hb); clear HB; have HB := n0_; clear n0_; (try clear hb); (try clear hb2); (try clear hk); (try clear hi))); try go_wp2_with (first | (go_at_call 126; (with_reducible refine (gemotref1_End.calls a0 0 400 t124 t125 _ A2.out).mono ?_); rintro e w4 ⟨rfl, hb⟩; have n0_ := Aside0.mk (below_step (by repeat (first | (with_reducible first | exact HB.out | apply below_alloc | apply pw_below_drewN | apply below_drew1) | exact HB.out)) hb); clear HB; have HB := n0_; clear n0_; (try clear hb); (try clear hb2); (try clear hk); (try clear hi))))
    go_ret3
    exact ⟨by first | rfl | (simp [errW_none, errW_some] <;> rfl) | (simp [*, errW_none, errW_some] <;> rfl), by repeat (first | (with_reducible first | exact HB.out | apply below_alloc | apply pw_below_drewN | apply below_drew1) | exact HB.out)⟩
  · rw [if_neg c3] at H
    have c3b0 : (t124 == (-1)) = false := beq_eq_false_iff_ne.mpr c3
    have c3b1 : (t124 != (-1)) = true := bne_iff_ne.mpr c3
    by_cases c5 : t124 = (-2)
    · rw [if_pos c5] at H
      have c5b0 : (t124 == (-2)) = true := beq_iff_eq.mpr c5
      have c5b1 : (t124 != (-2)) = false := bne_eq_false_iff_eq.mpr c5
      clear c5
      simp only [Option.some.injEq, Prod.mk.injEq] at H
      obtain ⟨rfl, rfl, rfl⟩ := H
      go_enter Try.func152, Try.ntmps152
      go_wp2_with (first | (go_at_call 126; (with_reducible refine (gemotref1_End.calls a0 0 400 t124 t125 _ A2.out).mono ?_); rintro e w6 ⟨rfl, hb⟩; have n0_ := Aside0.mk (below_step (by repeat (first | (with_reducible first | exact HB.out | apply below_alloc | apply pw_below_drewN | apply below_drew1) | exact HB.out)) hb); clear HB; have HB := n0_; clear n0_; (try clear hb); (try clear hb2); (try clear hk); (try clear hi)))
      repeat (go_quiet (first | (go_at_call 126; (with_reducible refine (gemotref1_End.calls a0 0 400 t124 t125 _ A2.out).mono ?_); rintro e w6 ⟨rfl, hb⟩; have n0_ := Aside0.mk (below_step (by repeat (first | (with_reducible first | exact HB.out | apply below_alloc | apply pw_below_drewN | apply below_drew1) | exact HB.out)) hb); clear HB; have HB := n0_; clear n0_; (try clear hb); (try clear hb2); (try clear hk); (try clear hi))); try go_wp2_with (first | (go_at_call 126; (with_reducible refine (gemotref1_End.calls a0 0 400 t124 t125 _ A2.out).mono ?_); rintro e w6 ⟨rfl, hb⟩; have n0_ := Aside0.mk (below_step (by repeat (first | (with_reducible first | exact HB.out | apply below_alloc | apply pw_below_drewN | apply below_drew1) | exact HB.out)) hb); clear HB; have HB := n0_; clear n0_; (try clear hb); (try clear hb2); (try clear hk); (try clear hi))))
      go_ret3
      exact ⟨by first | rfl | (simp [errW_none, errW_some] <;> rfl) | (simp [*, errW_none, errW_some] <;> rfl), by repeat (first | (with_reducible first | exact HB.out | apply below_alloc | apply pw_below_drewN | apply below_drew1) | exact HB.out)⟩
    · rw [if_neg c5] at H
      have c5b0 : (t124 == (-2)) = false := beq_eq_false_iff_ne.mpr c5
      have c5b1 : (t124 != (-2)) = true := bne_iff_ne.mpr c5
      by_cases c7 : t124 > 20000
      · rw [if_pos c7] at H
        have c7b0 : decide (20000 < t124) = true := decide_eq_true c7
        clear c7
        simp only [Option.some.injEq, Prod.mk.injEq] at H
        obtain ⟨rfl, rfl, rfl⟩ := H
        go_enter Try.func152, Try.ntmps152
        go_wp2_with (first | (go_at_call 126; (with_reducible refine (gemotref1_End.calls a0 0 400 t124 t125 _ A2.out).mono ?_); rintro e w8 ⟨rfl, hb⟩; have n0_ := Aside0.mk (below_step (by repeat (first | (with_reducible first | exact HB.out | apply below_alloc | apply pw_below_drewN | apply below_drew1) | exact HB.out)) hb); clear HB; have HB := n0_; clear n0_; (try clear hb); (try clear hb2); (try clear hk); (try clear hi)))
        repeat (go_quiet (first | (go_at_call 126; (with_reducible refine (gemotref1_End.calls a0 0 400 t124 t125 _ A2.out).mono ?_); rintro e w8 ⟨rfl, hb⟩; have n0_ := Aside0.mk (below_step (by repeat (first | (with_reducible first | exact HB.out | apply below_alloc | apply pw_below_drewN | apply below_drew1) | exact HB.out)) hb); clear HB; have HB := n0_; clear n0_; (try clear hb); (try clear hb2); (try clear hk); (try clear hi))); try go_wp2_with (first | (go_at_call 126; (with_reducible refine (gemotref1_End.calls a0 0 400 t124 t125 _ A2.out).mono ?_); rintro e w8 ⟨rfl, hb⟩; have n0_ := Aside0.mk (below_step (by repeat (first | (with_reducible first | exact HB.out | apply below_alloc | apply pw_below_drewN | apply below_drew1) | exact HB.out)) hb); clear HB; have HB := n0_; clear n0_; (try clear hb); (try clear hb2); (try clear hk); (try clear hi))))
        go_ret3
        exact ⟨by first | rfl | (simp [errW_none, errW_some] <;> rfl) | (simp [*, errW_none, errW_some] <;> rfl), by repeat (first | (with_reducible first | exact HB.out | apply below_alloc | apply pw_below_drewN | apply below_drew1) | exact HB.out)⟩
      · rw [if_neg c7] at H
        have c7b0 : decide (20000 < t124) = false := decide_eq_false c7
        clear c7
        by_cases c9 : 0 ≤ t124
        · rw [if_pos c9] at H
          have c9b0 := eq_true c9
          have c9b1 : decide (0 ≤ t124) = true := decide_eq_true c9
          clear c9
          by_cases c10 : t124 ≤ (a0.size : Int)
          · rw [if_pos c10] at H
            have c10b0 := eq_true c10
            have c10b1 : decide (t124 ≤ (a0.size : Int)) = true := decide_eq_true c10
            clear c10
            have c11b0 := eq_true (of_decide_eq_true (by first | (with_reducible assumption) | assumption) : 0 ≤ t124)
            have c12b0 := eq_true (of_decide_eq_true (by first | (with_reducible assumption) | assumption) : t124 ≤ (a0.size : Int))
            simp only [Option.some.injEq, Prod.mk.injEq] at H
            obtain ⟨rfl, rfl, rfl⟩ := H
            go_enter Try.func152, Try.ntmps152
            go_wp2_with (first | (go_at_call 126; (with_reducible refine (gemotref1_End.calls a0 0 400 t124 t125 _ A2.out).mono ?_); rintro e w13 ⟨rfl, hb⟩; have n0_ := Aside0.mk (below_step (by repeat (first | (with_reducible first | exact HB.out | apply below_alloc | apply pw_below_drewN | apply below_drew1) | exact HB.out)) hb); clear HB; have HB := n0_; clear n0_; (try clear hb); (try clear hb2); (try clear hk); (try clear hi)))
            repeat (go_quiet (first | (go_at_call 126; (with_reducible refine (gemotref1_End.calls a0 0 400 t124 t125 _ A2.out).mono ?_); rintro e w13 ⟨rfl, hb⟩; have n0_ := Aside0.mk (below_step (by repeat (first | (with_reducible first | exact HB.out | apply below_alloc | apply pw_below_drewN | apply below_drew1) | exact HB.out)) hb); clear HB; have HB := n0_; clear n0_; (try clear hb); (try clear hb2); (try clear hk); (try clear hi))); try go_wp2_with (first | (go_at_call 126; (with_reducible refine (gemotref1_End.calls a0 0 400 t124 t125 _ A2.out).mono ?_); rintro e w13 ⟨rfl, hb⟩; have n0_ := Aside0.mk (below_step (by repeat (first | (with_reducible first | exact HB.out | apply below_alloc | apply pw_below_drewN | apply below_drew1) | exact HB.out)) hb); clear HB; have HB := n0_; clear n0_; (try clear hb); (try clear hb2); (try clear hk); (try clear hi))))
            go_ret3
            exact ⟨by first | rfl | (simp [errW_none, errW_some] <;> rfl) | (simp [*, errW_none, errW_some] <;> rfl), by repeat (first | (with_reducible first | exact HB.out | apply below_alloc | apply pw_below_drewN | apply below_drew1) | exact HB.out)⟩
          · rw [if_neg c10] at H
            exact absurd H (by simp)
        · rw [if_neg c9] at H
          exact absurd H (by simp)

def gemotref1_Take.f (s : ByteArray) : Option (ByteArray × ByteArray × Int) := if s.size < 9223372036854770000 then some (takeF s) else none
theorem codes {s : ByteArray} {p : Int → Int × Int × Int} {pow : Bool} (hp : ∀ i, (p i).2.2 = 0 ∨ (p i).2.2 = 2 ∨ (p i).2.2 = 4) : ∀ (m : Nat) (i dep : Int) (last : ByteArray), (partsF s p pow m i dep last).2.2 = 0 ∨ (partsF s p pow m i dep last).2.2 = 2 ∨ (partsF s p pow m i dep last).2.2 = 4
  | 0, _, _, _ => .inl rfl
  | m + 1, i, dep, last => by
    simp only [partsF]
    split
    · exact hp i
    · split
      · exact .inr (.inl rfl)
      · exact codes hp m _ _ _
theorem endcodes (s : ByteArray) : ∀ (d : Nat) (i : Int), (endF s d i).2.2 = 0 ∨ (endF s d i).2.2 = 2 ∨ (endF s d i).2.2 = 4
  | 0, _ => .inr (.inr rfl)
  | d + 1, i => by
    simp only [endF]
    split
    · exact .inr (.inl rfl)
    · split
      · exact .inl rfl
      · split
        · exact codes (endcodes s d) _ _ _ _
        · exact .inr (.inl rfl)
theorem gemotref1_Take.eq (s : ByteArray) (hs : s.size < 9223372036854770000) : gemotref1_Take_p.f s = gemotref1_Take.f s := by
  unfold gemotref1_Take_p.f gemotref1_End.f gemotref1_Take.f takeF scanF
  rw [if_pos ⟨hs, by decide, by decide, by decide⟩, if_pos hs]
  simp only [Option.bind_some]
  unfold refEnd finR
  rw [show ((400 : Int)).toNat = 400 from rfl]
  by_cases c : (endF s 400 0).2.2 = 0
  · have he := endF_ok 400 0 (Int.le_refl _) c
    rw [if_pos c, if_pos c, if_neg (show ¬ ((endF s 400 0).2.2 ≠ 0) from fun h => h c)]
    simp only
    rw [if_neg (by omega), if_neg (by omega)]
    split
    · rfl
    · rw [if_pos (by omega), if_pos (by omega)]
  · rw [if_neg c, if_neg c]
    simp only
    rw [if_pos c]
    rcases endcodes s 400 0 with h | h | h
    · exact absurd h c
    · rw [h]; rfl
    · rw [h]; rfl
theorem gemotref1_Take.calls (a0 : ByteArray) (r1 : ByteArray) (r2 : ByteArray) (r3 : Int) (w : World) (h : gemotref1_Take.f a0 = some (r1, r2, r3)) :
    Calls Try.prog 152 #[.string a0] w fun e w' => e = .returned (.tuple #[.string r1, .string r2, .int .i64 r3]) ∧ Below w.heap.size w w' := by
  have hs : a0.size < 9223372036854770000 := by
    unfold gemotref1_Take.f at h
    split at h
    · assumption
    · cases h
  exact gemotref1_Take_p.calls a0 r1 r2 r3 w ((gemotref1_Take.eq a0 hs).trans h)

end Go.Proofs.Ytpfpmjdifnoeoaa.F
namespace Go.Proofs.Ytpfpmjdifnoeoaa.F
open Go.RowKit Go.Proofs.YtpfpmjdifnoeoaaW.PrintWords Go.Proofs.YtpfpmjdifnoeoaaW.PrintLast Go.Proofs.YtpfpmjdifnoeoaaW.PrintMore
attribute [local go_sem] max2_int min2_int max_two min_two max_three min_three max_four min_four
set_option linter.unusedVariables false
set_option linter.unusedSimpArgs false

/-! ### gemotref1_Right: function 114 -/
/-! #### gemotref1_Right_p: function 114 -/
def gemotref1_Right_p.f (a0 : ByteArray) : Option (Bool) := (gemotref1_Take.f a0).bind fun bt126 => (if bt126.2.2 = 0 then (if bt126.2.1.toList = ([] : List UInt8) then (some (bt126.1.toList != ([] : List UInt8))) else (some false)) else (some false))
set_option maxHeartbeats 8000000 in
set_option maxRecDepth 100000 in
theorem gemotref1_Right_p.calls (a0 : ByteArray) (r : Bool) (w : World) (h : gemotref1_Right_p.f a0 = some r) :
    Calls Try.prog 114 #[.string a0] w fun e w' => e = .returned (.bool r) ∧ Below w.heap.size w w' := by
  have HB := Aside0.mk (Below.refl w.heap.size w)
  have H : ((gemotref1_Take.f a0).bind fun bt126 => (if bt126.2.2 = 0 then (if bt126.2.1.toList = ([] : List UInt8) then (some (bt126.1.toList != ([] : List UInt8))) else (some false)) else (some false))) = some r := h
  clear h
  replace H := Option.bind_eq_some_iff.mp H
  obtain ⟨⟨t126, t127, t128⟩, A20, H⟩ := H
  replace H : (if t128 = 0 then (if t127.toList = ([] : List UInt8) then (some (t126.toList != ([] : List UInt8))) else (some false)) else (some false)) = some r := H
  have A2 := Aside0.mk A20
  clear A20
  by_cases c3 : t128 = 0
  · rw [if_pos c3] at H
    have c3b0 : (t128 == 0) = true := beq_iff_eq.mpr c3
    have c3b1 : (t128 != 0) = false := bne_eq_false_iff_eq.mpr c3
    clear c3
    by_cases c4 : t127.toList = ([] : List UInt8)
    · rw [if_pos c4] at H
      have c4b0 : (t127.toList == ([] : List UInt8)) = true := beq_iff_eq.mpr c4
      have c4b1 : (t127.toList != ([] : List UInt8)) = false := bne_eq_false_iff_eq.mpr c4
      clear c4
      obtain rfl := Option.some.inj H
      go_enter Try.func114, Try.ntmps114
      go_wp2_with (first | ((with_reducible refine gate_callee (f := 152) rfl ?_); refine goesL_ (some 8) rfl rfl Try.func152 (by kernel_rfl) rfl #[.string a0] rfl (by (try simp only [List.map_toArray, List.map_cons, List.map_nil]); first | done | rfl | (simp only [List.length_drop, List.length_take]; rfl)) ?_; (with_reducible refine (gemotref1_Take.calls a0 t126 t127 t128 _ A2.out).mono ?_); rintro e w5 ⟨rfl, hb⟩; refine ⟨_, rfl, ?_⟩; have n0_ := Aside0.mk (below_step (by repeat (first | (with_reducible first | exact HB.out | apply below_alloc | apply pw_below_drewN | apply below_drew1) | exact HB.out)) hb); clear HB; have HB := n0_; clear n0_; (try clear hb); (try clear hb2); (try clear hk); (try clear hi)))
      go_ret
      exact ⟨by first | rfl | (cases h_ : t126.toList <;> simp [h_]) | (simp [errW_none, errW_some] <;> rfl) | (simp [*, errW_none, errW_some] <;> rfl), by repeat (first | (with_reducible first | exact HB.out | apply below_alloc | apply pw_below_drewN | apply below_drew1) | exact HB.out)⟩
    · rw [if_neg c4] at H
      have c4b0 : (t127.toList == ([] : List UInt8)) = false := beq_eq_false_iff_ne.mpr c4
      have c4b1 : (t127.toList != ([] : List UInt8)) = true := bne_iff_ne.mpr c4
      obtain rfl := Option.some.inj H
      go_enter Try.func114, Try.ntmps114
      go_wp2_with (first | ((with_reducible refine gate_callee (f := 152) rfl ?_); refine goesL_ (some 8) rfl rfl Try.func152 (by kernel_rfl) rfl #[.string a0] rfl (by (try simp only [List.map_toArray, List.map_cons, List.map_nil]); first | done | rfl | (simp only [List.length_drop, List.length_take]; rfl)) ?_; (with_reducible refine (gemotref1_Take.calls a0 t126 t127 t128 _ A2.out).mono ?_); rintro e w6 ⟨rfl, hb⟩; refine ⟨_, rfl, ?_⟩; have n0_ := Aside0.mk (below_step (by repeat (first | (with_reducible first | exact HB.out | apply below_alloc | apply pw_below_drewN | apply below_drew1) | exact HB.out)) hb); clear HB; have HB := n0_; clear n0_; (try clear hb); (try clear hb2); (try clear hk); (try clear hi)))
      go_ret
      exact ⟨by first | rfl | (simp [errW_none, errW_some] <;> rfl) | (simp [*, errW_none, errW_some] <;> rfl), by repeat (first | (with_reducible first | exact HB.out | apply below_alloc | apply pw_below_drewN | apply below_drew1) | exact HB.out)⟩
  · rw [if_neg c3] at H
    have c3b0 : (t128 == 0) = false := beq_eq_false_iff_ne.mpr c3
    have c3b1 : (t128 != 0) = true := bne_iff_ne.mpr c3
    obtain rfl := Option.some.inj H
    go_enter Try.func114, Try.ntmps114
    go_wp2_with (first | ((with_reducible refine gate_callee (f := 152) rfl ?_); refine goesL_ (some 8) rfl rfl Try.func152 (by kernel_rfl) rfl #[.string a0] rfl (by (try simp only [List.map_toArray, List.map_cons, List.map_nil]); first | done | rfl | (simp only [List.length_drop, List.length_take]; rfl)) ?_; (with_reducible refine (gemotref1_Take.calls a0 t126 t127 t128 _ A2.out).mono ?_); rintro e w7 ⟨rfl, hb⟩; refine ⟨_, rfl, ?_⟩; have n0_ := Aside0.mk (below_step (by repeat (first | (with_reducible first | exact HB.out | apply below_alloc | apply pw_below_drewN | apply below_drew1) | exact HB.out)) hb); clear HB; have HB := n0_; clear n0_; (try clear hb); (try clear hb2); (try clear hk); (try clear hi)))
    go_ret
    exact ⟨by first | rfl | (simp [errW_none, errW_some] <;> rfl) | (simp [*, errW_none, errW_some] <;> rfl), by repeat (first | (with_reducible first | exact HB.out | apply below_alloc | apply pw_below_drewN | apply below_drew1) | exact HB.out)⟩

def gemotref1_Right.f (s : ByteArray) : Option Bool := if s.size < 9223372036854770000 then some (rightB s) else none
theorem gemotref1_Right.eq (s : ByteArray) (hs : s.size < 9223372036854770000) : gemotref1_Right_p.f s = gemotref1_Right.f s := by
  unfold gemotref1_Right_p.f gemotref1_Take.f gemotref1_Right.f
  rw [if_pos hs, if_pos hs]
  simp only [Option.bind_some]
  unfold takeF rightB
  by_cases c : (scanF s).2.2 = 0
  · have he := scanF_end c
    rw [if_neg (show ¬ ((scanF s).2.2 ≠ 0) from fun h => h c)]
    by_cases c2 : (scanF s).1 > 20000
    · rw [if_pos c2, if_neg (show ¬ ((3 : Int) = 0) by decide)]
      rw [decide_eq_false (by omega)]
    · rw [if_neg c2, if_pos rfl]
      by_cases c3 : s.size ≤ (scanF s).1.toNat
      · rw [if_pos ((extract_nil s _).mpr c3)]
        have c4 : (scanF s).1.toNat = s.size := by omega
        rw [c4, extract_all, decide_eq_true (by omega)]
        have h5 : ¬ s.toList = [] := fun h => by
          have := extract_nil s 0
          rw [extract_all] at this
          have := this.mp h
          omega
        simp [h5]
      · rw [if_neg (fun h => c3 ((extract_nil s _).mp h)), decide_eq_false (by omega)]
  · rw [if_pos c, if_neg c, decide_eq_false (fun h => c h.1)]
theorem gemotref1_Right.calls (a0 : ByteArray) (r : Bool) (w : World) (h : gemotref1_Right.f a0 = some r) :
    Calls Try.prog 114 #[.string a0] w fun e w' => e = .returned (.bool r) ∧ Below w.heap.size w w' := by
  have hs : a0.size < 9223372036854770000 := by
    unfold gemotref1_Right.f at h
    split at h
    · assumption
    · cases h
  exact gemotref1_Right_p.calls a0 r w ((gemotref1_Right.eq a0 hs).trans h)

end Go.Proofs.Ytpfpmjdifnoeoaa.F
namespace Go.Proofs.Ytpfpmjdifnoeoaa.F
open Go.RowKit Go.Proofs.YtpfpmjdifnoeoaaW.PrintWords Go.Proofs.YtpfpmjdifnoeoaaW.PrintLast Go.Proofs.YtpfpmjdifnoeoaaW.PrintMore
attribute [local go_sem] max2_int min2_int max_two min_two max_three min_three max_four min_four
set_option linter.unusedVariables false
set_option linter.unusedSimpArgs false

/-! ### gemotref1_element: function 137 -/
/-! #### gemotref1_element_p: function 137 -/
def gemotref1_element_p.f (a0 : ByteArray) : Option (Bool) := (gemotref1_Right.f a0).bind fun t829 => (if t829 = true then (if 0 < (a0.size : Int) then (if (bt a0 0) = 103 then (some true) else (some ((bt a0 0) == 101))) else (none)) else (some false))
set_option maxHeartbeats 8000000 in
set_option maxRecDepth 100000 in
theorem gemotref1_element_p.calls (a0 : ByteArray) (r : Bool) (w : World) (h : gemotref1_element_p.f a0 = some r) :
    Calls Try.prog 137 #[.string a0] w fun e w' => e = .returned (.bool r) ∧ Below w.heap.size w w' := by
  have HB := Aside0.mk (Below.refl w.heap.size w)
  have H : ((gemotref1_Right.f a0).bind fun t829 => (if t829 = true then (if 0 < (a0.size : Int) then (if (bt a0 0) = 103 then (some true) else (some ((bt a0 0) == 101))) else (none)) else (some false))) = some r := h
  clear h
  replace H := Option.bind_eq_some_iff.mp H
  obtain ⟨t829, A20, H⟩ := H
  replace H : (if t829 = true then (if 0 < (a0.size : Int) then (if (bt a0 0) = 103 then (some true) else (some ((bt a0 0) == 101))) else (none)) else (some false)) = some r := H
  have A2 := Aside0.mk A20
  clear A20
  by_cases c3 : t829 = true
  · subst c3
    have H1 : (if 0 < (a0.size : Int) then (if (bt a0 0) = 103 then (some true) else (some ((bt a0 0) == 101))) else (none)) = some r := by rw [if_pos rfl] at H; exact H
    clear H
    have H := H1
    clear H1
    by_cases c4 : 0 < (a0.size : Int)
    · rw [if_pos c4] at H
      have c4b0 : decide (0 < (a0.size : Int)) = true := decide_eq_true c4
      have c4b1 : decide (0 < a0.size) = true := decide_eq_true (by omega)
      clear c4
      by_cases c6 : (bt a0 0) = 103
      · rw [if_pos c6] at H
        have c6b0 : ((bt a0 0) == 103) = true := beq_iff_eq.mpr c6
        have c6b1 : ((bt a0 0) != 103) = false := bne_eq_false_iff_eq.mpr c6
        clear c6
        obtain rfl := Option.some.inj H
        go_enter Try.func137, Try.ntmps137
        go_wp2_with (first | ((with_reducible refine gate_callee (f := 114) rfl ?_); refine goesL_ (some 5) rfl rfl Try.func114 (by kernel_rfl) rfl #[.string a0] rfl (by (try simp only [List.map_toArray, List.map_cons, List.map_nil]); first | done | rfl | (simp only [List.length_drop, List.length_take]; rfl)) ?_; (with_reducible refine (gemotref1_Right.calls a0 true _ A2.out).mono ?_); rintro e w7 ⟨rfl, hb⟩; refine ⟨_, rfl, ?_⟩; have n0_ := Aside0.mk (below_step (by repeat (first | (with_reducible first | exact HB.out | apply below_alloc | apply pw_below_drewN | apply below_drew1) | exact HB.out)) hb); clear HB; have HB := n0_; clear n0_; (try clear hb); (try clear hb2); (try clear hk); (try clear hi); have p5 : 0 ≤ (0 : Int) := (by omega); have q5 : 0 < a0.size := (by have : (0 : Int) < (a0.size : Int) := of_decide_eq_true (by first | (with_reducible assumption) | assumption); omega); have hx5 : ∀ h : 0 < a0.size, ((a0[0]'h).toNat : Int) = bt a0 0 := bt_at a0 0; clear p5; have qi5 : (0 < (a0.size : Int)) = True := eq_true (of_decide_eq_true (by first | (with_reducible assumption) | assumption)); replace q5 := eq_true q5))
        go_ret
        exact ⟨by first | rfl | (simp [errW_none, errW_some] <;> rfl) | (simp [*, errW_none, errW_some] <;> rfl), by repeat (first | (with_reducible first | exact HB.out | apply below_alloc | apply pw_below_drewN | apply below_drew1) | exact HB.out)⟩
      · rw [if_neg c6] at H
        have c6b0 : ((bt a0 0) == 103) = false := beq_eq_false_iff_ne.mpr c6
        have c6b1 : ((bt a0 0) != 103) = true := bne_iff_ne.mpr c6
        obtain rfl := Option.some.inj H
        go_enter Try.func137, Try.ntmps137
        go_wp2_with (first | ((with_reducible refine gate_callee (f := 114) rfl ?_); refine goesL_ (some 5) rfl rfl Try.func114 (by kernel_rfl) rfl #[.string a0] rfl (by (try simp only [List.map_toArray, List.map_cons, List.map_nil]); first | done | rfl | (simp only [List.length_drop, List.length_take]; rfl)) ?_; (with_reducible refine (gemotref1_Right.calls a0 true _ A2.out).mono ?_); rintro e w9 ⟨rfl, hb⟩; refine ⟨_, rfl, ?_⟩; have n0_ := Aside0.mk (below_step (by repeat (first | (with_reducible first | exact HB.out | apply below_alloc | apply pw_below_drewN | apply below_drew1) | exact HB.out)) hb); clear HB; have HB := n0_; clear n0_; (try clear hb); (try clear hb2); (try clear hk); (try clear hi); have p5 : 0 ≤ (0 : Int) := (by omega); have q5 : 0 < a0.size := (by have : (0 : Int) < (a0.size : Int) := of_decide_eq_true (by first | (with_reducible assumption) | assumption); omega); have hx5 : ∀ h : 0 < a0.size, ((a0[0]'h).toNat : Int) = bt a0 0 := bt_at a0 0; clear p5; have qi5 : (0 < (a0.size : Int)) = True := eq_true (of_decide_eq_true (by first | (with_reducible assumption) | assumption)); replace q5 := eq_true q5; have p8 : 0 ≤ (0 : Int) := (by omega); have q8 : 0 < a0.size := (by have : (0 : Int) < (a0.size : Int) := of_decide_eq_true (by first | (with_reducible assumption) | assumption); omega); have hx8 : ∀ h : 0 < a0.size, ((a0[0]'h).toNat : Int) = bt a0 0 := bt_at a0 0; clear p8; have qi8 : (0 < (a0.size : Int)) = True := eq_true (of_decide_eq_true (by first | (with_reducible assumption) | assumption)); replace q8 := eq_true q8))
        go_ret
        exact ⟨by first | rfl | (simp [errW_none, errW_some] <;> rfl) | (simp [*, errW_none, errW_some] <;> rfl), by repeat (first | (with_reducible first | exact HB.out | apply below_alloc | apply pw_below_drewN | apply below_drew1) | exact HB.out)⟩
    · rw [if_neg c4] at H
      exact absurd H (by simp)
  · replace c3 := Bool.eq_false_iff.mpr c3
    subst c3
    have H1 : (some false) = some r := by rw [if_neg (show ¬ (false = true) by decide)] at H; exact H
    clear H
    have H := H1
    clear H1
    obtain rfl := Option.some.inj H
    go_enter Try.func137, Try.ntmps137
    go_wp2_with (first | ((with_reducible refine gate_callee (f := 114) rfl ?_); refine goesL_ (some 5) rfl rfl Try.func114 (by kernel_rfl) rfl #[.string a0] rfl (by (try simp only [List.map_toArray, List.map_cons, List.map_nil]); first | done | rfl | (simp only [List.length_drop, List.length_take]; rfl)) ?_; (with_reducible refine (gemotref1_Right.calls a0 false _ A2.out).mono ?_); rintro e w10 ⟨rfl, hb⟩; refine ⟨_, rfl, ?_⟩; have n0_ := Aside0.mk (below_step (by repeat (first | (with_reducible first | exact HB.out | apply below_alloc | apply pw_below_drewN | apply below_drew1) | exact HB.out)) hb); clear HB; have HB := n0_; clear n0_; (try clear hb); (try clear hb2); (try clear hk); (try clear hi)))
    go_ret
    exact ⟨by first | rfl | (simp [errW_none, errW_some] <;> rfl) | (simp [*, errW_none, errW_some] <;> rfl), by repeat (first | (with_reducible first | exact HB.out | apply below_alloc | apply pw_below_drewN | apply below_drew1) | exact HB.out)⟩

def gemotref1_element.f (t : ByteArray) : Option Bool := if t.size < 9223372036854770000 then some (elemB t) else none
theorem gemotref1_element.eq (t : ByteArray) (hs : t.size < 9223372036854770000) : gemotref1_element_p.f t = gemotref1_element.f t := by
  unfold gemotref1_element_p.f gemotref1_Right.f gemotref1_element.f elemB
  rw [if_pos hs, if_pos hs]
  simp only [Option.bind_some]
  by_cases c : rightB t = true
  · have := right_pos c
    rw [if_pos c, if_pos (by omega), c]
    by_cases d : bt t 0 = 103
    · rw [if_pos d, d]; rfl
    · rw [if_neg d]; simp [d]
  · rw [if_neg c]
    have c' : rightB t = false := by simpa using c
    rw [c']; rfl
theorem gemotref1_element.calls (a0 : ByteArray) (r : Bool) (w : World) (h : gemotref1_element.f a0 = some r) :
    Calls Try.prog 137 #[.string a0] w fun e w' => e = .returned (.bool r) ∧ Below w.heap.size w w' := by
  have hs : a0.size < 9223372036854770000 := by
    unfold gemotref1_element.f at h
    split at h
    · assumption
    · cases h
  exact gemotref1_element_p.calls a0 r w ((gemotref1_element.eq a0 hs).trans h)

end Go.Proofs.Ytpfpmjdifnoeoaa.F
namespace Go.Proofs.Ytpfpmjdifnoeoaa.F
open Go.RowKit Go.Proofs.YtpfpmjdifnoeoaaW.PrintWords Go.Proofs.YtpfpmjdifnoeoaaW.PrintLast Go.Proofs.YtpfpmjdifnoeoaaW.PrintMore
attribute [local go_sem] max2_int min2_int max_two min_two max_three min_three max_four min_four
set_option linter.unusedVariables false
set_option linter.unusedSimpArgs false

/-! ### gemotref1_Exponents: function 138 -/
/-! #### gemotref1_Exponents_p: function 138 -/
def gemotref1_Exponents_p.l0 : Nat → ByteArray → List ByteArray → Int → Option (List ByteArray)
  | 0, _, _, _ => none
  | k + 1, x0, x3, x4 => if 0 < (x0.size : Int) then (if (bt x0 0) = 101 then (if x4 < (x0.size : Int) then ((gemotref1_End.f x0 x4 400).bind fun bt830 => (if 0 ≤ x4 then (if x4 ≤ bt830.1 then (if bt830.1 ≤ (x0.size : Int) then (if x3.length < 8796093022208 then (gemotref1_Exponents_p.l0 k x0 (x3 ++ [x0.extract (x4 : Int).toNat (bt830.1 : Int).toNat]) bt830.1) else (none)) else (none)) else (none)) else (none))) else (some x3)) else (some x3)) else (none)
def gemotref1_Exponents_p.f (k : Nat) (a0 : ByteArray) : Option (List ByteArray) := gemotref1_Exponents_p.l0 k a0 ([] : List ByteArray) 2
theorem gemotref1_Exponents_p.mono_l : ∀ k, (∀ y0 y1 y2, LeO (gemotref1_Exponents_p.l0 k y0 y1 y2) (gemotref1_Exponents_p.l0 (k + 1) y0 y1 y2))
  | 0 => fun _ _ _ r h => by simp [gemotref1_Exponents_p.l0] at h
  | k + 1 => by
    have ih0 := gemotref1_Exponents_p.mono_l k
    · intro y0 y1 y2
      unfold gemotref1_Exponents_p.l0
      repeat' first
      | (with_reducible exact ih0 _ _ _)
      | (with_reducible exact LeO.refl _)
      | (with_reducible exact LeO.none _)
      | (with_reducible refine LeO.ite ?_ ?_)
      | (with_reducible refine LeO.bind ?_ (fun _ => ?_))
      | exact ih0 _ _ _
      | exact LeO.none _
      | refine LeO.ite ?_ ?_
      | refine LeO.bind ?_ (fun _ => ?_)
theorem gemotref1_Exponents_p.mono : ∀ a0 k, LeO (gemotref1_Exponents_p.f k a0) (gemotref1_Exponents_p.f (k + 1) a0) := by
  intro a0 k
  have ih0 := gemotref1_Exponents_p.mono_l k
  unfold gemotref1_Exponents_p.f
  repeat' first
      | (with_reducible exact ih0 _ _ _)
      | (with_reducible exact LeO.refl _)
      | (with_reducible exact LeO.none _)
      | (with_reducible refine LeO.ite ?_ ?_)
      | (with_reducible refine LeO.bind ?_ (fun _ => ?_))
      | exact ih0 _ _ _
      | exact LeO.none _
      | refine LeO.ite ?_ ?_
      | refine LeO.bind ?_ (fun _ => ?_)
set_option maxHeartbeats 8000000 in
set_option maxRecDepth 100000 in
theorem gemotref1_Exponents_p.calls (k : Nat) (a0 : ByteArray) (r : List ByteArray) (w : World) (h : gemotref1_Exponents_p.f k a0 = some r) :
    Calls Try.prog 138 #[.string a0] w fun e w' => ∃ v0_ : Value, e = .returned (v0_) ∧ Kd.R Kd.string 9 w' w.heap.size (fun _ => True) v0_ r ∧ Below w.heap.size w w' := by
  have HB := Aside0.mk (Below.refl w.heap.size w)
  have H : (gemotref1_Exponents_p.l0 k a0 ([] : List ByteArray) 2) = some r := h
  clear h
  have H' := Aside0.mk H
  clear H
  go_enter Try.func138, Try.ntmps138
  go_wp2
  go_loopg [3, 4] k (fun kq v3 v4 w' => ∃ (x3_1 : List ByteArray) (x4_1 : Int), v4 = .int .i64 x4_1 ∧ Aside0 (gemotref1_Exponents_p.l0 kq a0 x3_1 x4_1 = some r) ∧ Aside0 (kq ≤ k) ∧ Aside0 (Kd.R Kd.string 9 w' w.heap.size (fun _ => True) v3 x3_1) ∧ Aside0 (Below w.heap.size w w'))
  case atStart => exact ⟨(([] : List ByteArray)), (2), (by first | rfl | (simp; done) | (simp [*]; done)), H', ⟨Nat.le_refl _⟩, ⟨by first | exact Kd.R_nil _ _ _ _ _ | exact Kd.N_nil _ _ _ _ _ | exact Kd.V_nil _ _ _ _ _ | exact Kd.Q_nil _ _ _ _ _ | exact Kd.S_nil _ _ _ _ _⟩, ⟨by repeat (first | (with_reducible first | exact HB.out | apply below_alloc | apply pw_below_drewN | apply below_drew1) | exact HB.out)⟩⟩
  case round =>
    clear H'
    try clear c1
    obtain ⟨x3_1, x4_1, rfl, HA, HK1, HO_3, HB⟩ := hrel
    cases gk with
    | zero => exact absurd HA.out (by simp [gemotref1_Exponents_p.l0])
    | succ k1 =>
      have H := HA.out
      clear HA
      simp only [gemotref1_Exponents_p.l0] at H
      by_cases c2 : 0 < (a0.size : Int)
      · rw [if_pos c2] at H
        have c2b0 : decide (0 < (a0.size : Int)) = true := decide_eq_true c2
        have c2b1 : decide (0 < a0.size) = true := decide_eq_true (by omega)
        clear c2
        by_cases c4 : (bt a0 0) = 101
        · rw [if_pos c4] at H
          have c4b0 : ((bt a0 0) == 101) = true := beq_iff_eq.mpr c4
          have c4b1 : ((bt a0 0) != 101) = false := bne_eq_false_iff_eq.mpr c4
          clear c4
          by_cases c5 : x4_1 < (a0.size : Int)
          · rw [if_pos c5] at H
            have c5b0 : decide (x4_1 < (a0.size : Int)) = true := decide_eq_true c5
            clear c5
            replace H := Option.bind_eq_some_iff.mp H
            obtain ⟨⟨t830, t831⟩, A60, H⟩ := H
            replace H : (if 0 ≤ x4_1 then (if x4_1 ≤ t830 then (if t830 ≤ (a0.size : Int) then (if x3_1.length < 8796093022208 then (gemotref1_Exponents_p.l0 k1 a0 (x3_1 ++ [a0.extract (x4_1 : Int).toNat (t830 : Int).toNat]) t830) else (none)) else (none)) else (none)) else (none)) = some r := H
            have A6 := Aside0.mk A60
            clear A60
            by_cases c7 : 0 ≤ x4_1
            · rw [if_pos c7] at H
              have c7b0 := eq_true c7
              have c7b1 : decide (0 ≤ x4_1) = true := decide_eq_true c7
              clear c7
              by_cases c8 : x4_1 ≤ t830
              · rw [if_pos c8] at H
                have c8b0 := eq_true c8
                have c8b1 : decide (x4_1 ≤ t830) = true := decide_eq_true c8
                clear c8
                by_cases c9 : t830 ≤ (a0.size : Int)
                · rw [if_pos c9] at H
                  have c9b0 := eq_true c9
                  have c9b1 : decide (t830 ≤ (a0.size : Int)) = true := decide_eq_true c9
                  clear c9
                  by_cases c10 : x3_1.length < 8796093022208
                  · rw [if_pos c10] at H
                    have LMc10 := Aside0.mk c10
                    clear c10
                    obtain ⟨y832, hy832⟩ : ∃ y_ : List ByteArray, y_ = (x3_1 ++ [a0.extract (x4_1 : Int).toNat (t830 : Int).toNat]) := ⟨_, rfl⟩
                    replace H : (gemotref1_Exponents_p.l0 k1 a0 y832 t830) = some r := by first | (rw [hy832]; with_reducible exact H) | (have H2_ := (Option.bind_some _ _).symm.trans H; rw [hy832]; with_reducible exact H2_) | (have H2_ := (Option.bind_some _ _).symm.trans H; with_reducible exact H2_) | with_reducible exact H | (rw [hy832]; exact H) | exact H
                    have Ny832 := Aside0.mk hy832
                    clear hy832
                    have H' := Aside0.mk H
                    clear H
                    have p3 : 0 ≤ (0 : Int) := (by omega)
                    have q3 : 0 < a0.size := (by have : (0 : Int) < (a0.size : Int) := of_decide_eq_true (by first | (with_reducible assumption) | assumption); omega)
                    have hx3 : ∀ h : 0 < a0.size, ((a0[0]'h).toNat : Int) = bt a0 0 := bt_at a0 0
                    clear p3
                    have qi3 : (0 < (a0.size : Int)) = True := eq_true (of_decide_eq_true (by first | (with_reducible assumption) | assumption))
                    replace q3 := eq_true q3
                    go_wp2_with (first | ((with_reducible refine gate_callee (f := 126) rfl ?_); refine goesL_ (some 19) rfl rfl Try.func126 (by kernel_rfl) rfl #[.string a0, .int .i64 x4_1, .int .i64 400] rfl (by (try simp only [List.map_toArray, List.map_cons, List.map_nil]); first | done | rfl | (simp only [List.length_drop, List.length_take]; rfl)) ?_; (with_reducible refine (gemotref1_End.calls a0 x4_1 400 t830 t831 _ A6.out).mono ?_); rintro e w11 ⟨rfl, hb⟩; refine ⟨_, rfl, ?_⟩; have n0_ := Aside0.mk (Kd.R_below (by (with_reducible repeat (first | apply Kd.R_alloc | apply Kd.R_drewN | apply Kd.R_drew)); exact HO_3.out) hb); have n1_ := Aside0.mk (below_step (by repeat (first | (with_reducible first | exact HB.out | apply below_alloc | apply pw_below_drewN | apply below_drew1) | exact HB.out)) hb); clear HO_3; clear HB; have HO_3 := n0_; have HB := n1_; clear n0_ n1_; (try clear hb); (try clear hb2); (try clear hk); (try clear hi)) | ((with_reducible refine gate_builtin (b := .append) (xs := #[.tmp 22, .tmp 27]) rfl ?_); (try (refine gate_guard (by rfl) ?_; dsimp only)); at_builtin; refine Kd.R_append Kd.string (w0 := w) w.heap.size rfl (.tmp 22) (.tmp 27) 43 9 (.string ⟨#[]⟩) 16 rfl Try.underlying43 info9 rfl (by decide) (by omega) u3 x3_1 (a0.extract (x4_1 : Int).toNat (t830 : Int).toNat) [.string (a0.extract (x4_1 : Int).toNat (t830 : Int).toNat)] (fun _ => True) (fun _ => False) rfl rfl ?aP (fun _ hk => hk.elim) ?aF ?aO ?aB ?aS ?aL ?_; (case aP => exact rfl); (case aB => exact (by repeat (first | (with_reducible first | exact HB.out | apply below_alloc | apply pw_below_drewN | apply below_drew1) | exact HB.out))); (case aF => exact (fun _ _ => trivial)); (case aO => exact (by (with_reducible repeat (first | apply Kd.R_alloc | apply Kd.R_drewN | apply Kd.R_drew)); exact HO_3.out)); (case aS => exact (below_size (by repeat (first | (with_reducible first | exact HB.out | apply below_alloc | apply pw_below_drewN | apply below_drew1) | exact HB.out)))); (case aL => have := LMc10.out; omega); intro v833 w12 ho hb hg hat; rw [← Ny832.out] at ho; have n0_ := Aside0.mk (hb); have n1_ := Aside0.mk (ho); clear HB; clear HO_3; have HB := n0_; have HO834 := n1_; clear n0_ n1_; clear ho hb hg hat))
                    go_roundg k1
                    case measure => have := HK1.out; omega
                    case rel => exact ⟨(y832), (t830), (by first | rfl | (simp; done) | (simp [*]; done)), H', ⟨by have := HK1.out; omega⟩, ⟨by (with_reducible repeat (first | apply Kd.R_alloc | apply Kd.R_drewN | apply Kd.R_drew)); exact HO834.out⟩, ⟨by repeat (first | (with_reducible first | exact HB.out | apply below_alloc | apply pw_below_drewN | apply below_drew1) | exact HB.out)⟩⟩
                  · rw [if_neg c10] at H
                    exact absurd H (by simp)
                · rw [if_neg c9] at H
                  exact absurd H (by simp)
              · rw [if_neg c8] at H
                exact absurd H (by simp)
            · rw [if_neg c7] at H
              exact absurd H (by simp)
          · rw [if_neg c5] at H
            have c5b0 : decide (x4_1 < (a0.size : Int)) = false := decide_eq_false c5
            clear c5
            obtain rfl := Option.some.inj H
            have p3 : 0 ≤ (0 : Int) := (by omega)
            have q3 : 0 < a0.size := (by have : (0 : Int) < (a0.size : Int) := of_decide_eq_true (by first | (with_reducible assumption) | assumption); omega)
            have hx3 : ∀ h : 0 < a0.size, ((a0[0]'h).toNat : Int) = bt a0 0 := bt_at a0 0
            clear p3
            have qi3 : (0 < (a0.size : Int)) = True := eq_true (of_decide_eq_true (by first | (with_reducible assumption) | assumption))
            replace q3 := eq_true q3
            go_wp2
            go_ret
            exact ⟨_, by first | rfl | (simp [errW_none, errW_some] <;> rfl) | (simp [*, errW_none, errW_some] <;> rfl), by (with_reducible repeat (first | apply Kd.R_alloc | apply Kd.R_drewN | apply Kd.R_drew)); exact HO_3.out, by repeat (first | (with_reducible first | exact HB.out | apply below_alloc | apply pw_below_drewN | apply below_drew1) | exact HB.out)⟩
        · rw [if_neg c4] at H
          have c4b0 : ((bt a0 0) == 101) = false := beq_eq_false_iff_ne.mpr c4
          have c4b1 : ((bt a0 0) != 101) = true := bne_iff_ne.mpr c4
          obtain rfl := Option.some.inj H
          have p3 : 0 ≤ (0 : Int) := (by omega)
          have q3 : 0 < a0.size := (by have : (0 : Int) < (a0.size : Int) := of_decide_eq_true (by first | (with_reducible assumption) | assumption); omega)
          have hx3 : ∀ h : 0 < a0.size, ((a0[0]'h).toNat : Int) = bt a0 0 := bt_at a0 0
          clear p3
          have qi3 : (0 < (a0.size : Int)) = True := eq_true (of_decide_eq_true (by first | (with_reducible assumption) | assumption))
          replace q3 := eq_true q3
          go_wp2
          go_ret
          exact ⟨_, by first | rfl | (simp [errW_none, errW_some] <;> rfl) | (simp [*, errW_none, errW_some] <;> rfl), by (with_reducible repeat (first | apply Kd.R_alloc | apply Kd.R_drewN | apply Kd.R_drew)); exact HO_3.out, by repeat (first | (with_reducible first | exact HB.out | apply below_alloc | apply pw_below_drewN | apply below_drew1) | exact HB.out)⟩
      · rw [if_neg c2] at H
        exact absurd H (by simp)

open Go.Proofs.Ytpfpmjdifnoeoaa.Pure
def gemotref1_Exponents.f (t : ByteArray) : Option (List ByteArray) := if elemB t = true then some (expsF t) else none
theorem gemotref1_Exponents.loop {t : ByteArray} (hs : t.size ≤ 20000) (hb : bt t 0 = 101) (h0 : 0 < t.size) : ∀ (ts : List ByteArray) (i : Nat) (acc : List ByteArray), Lies t (cat ts) i → i + (cat ts).size = t.size → (∀ x ∈ ts, Tm x) → acc.length ≤ i →
    ∃ K, ∀ k, K ≤ k → gemotref1_Exponents_p.l0 k t acc i = some (acc ++ ts)
  | [], i, acc, hl, he, _, _ => by
    refine ⟨1, fun k hk => ?_⟩
    obtain ⟨k, rfl⟩ : ∃ m, k = m + 1 := ⟨k - 1, by omega⟩
    have hz : (cat []).size = 0 := rfl
    simp only [gemotref1_Exponents_p.l0]
    rw [if_pos (by omega), if_pos hb, if_neg (by omega), List.append_nil]
  | x :: ts, i, acc, hl, he, hx, ha => by
    have hz : (cat (x :: ts)).size = x.size + (cat ts).size := by rw [cat, ByteArray.size_append]
    have hp := (hx x List.mem_cons_self).pos
    have h1 : Lies t x i := by have := hl.trans (Lies.first x (cat ts)); rwa [Nat.add_zero] at this
    have h2 : Lies t (cat ts) (i + x.size) := hl.trans (Lies.last x (cat ts))
    obtain ⟨K, hK⟩ := gemotref1_Exponents.loop hs hb h0 ts (i + x.size) (acc ++ [x]) h2 (by omega) (fun y hy => hx y (List.mem_cons_of_mem _ hy)) (by rw [List.length_append]; simp; omega)
    refine ⟨K + 1, fun k hk => ?_⟩
    obtain ⟨k, rfl⟩ : ∃ m, k = m + 1 := ⟨k - 1, by omega⟩
    have h3 := Tm.at_ h1 (hx x List.mem_cons_self) 400 (by have := (hx x List.mem_cons_self).dep; omega)
    simp only [gemotref1_Exponents_p.l0]
    unfold gemotref1_End.f refEnd
    rw [if_pos (by omega), if_pos hb, if_pos (by omega), if_pos (by omega), show ((400 : Int)).toNat = 400 from rfl, h3]
    simp only [Option.bind_some, finR, if_true]
    rw [if_pos (by omega), if_pos (by omega), if_pos (by omega), if_pos (by omega)]
    have h4 : t.extract ((i : Int)).toNat ((i : Int) + (x.size : Int)).toNat = x := by
      rw [show ((i : Int)).toNat = i by omega, show ((i : Int) + (x.size : Int)).toNat = i + x.size by omega]
      exact h1.whole
    rw [h4, show ((i : Int) + (x.size : Int)) = ((i + x.size : Nat) : Int) by omega, hK k (by omega), List.append_assoc]
    rfl
theorem gemotref1_Exponents.eq (t : ByteArray) (h : elemB t = true) : ∃ k, gemotref1_Exponents_p.f k t = some (expsF t) := by
  have hr : rightB t = true ∧ (bt t 0 = 103 ∨ bt t 0 = 101) := by
    unfold elemB at h
    rw [Bool.and_eq_true, Bool.or_eq_true, beq_iff_eq, beq_iff_eq] at h
    exact h
  have hp := right_pos hr.1
  unfold gemotref1_Exponents_p.f
  by_cases c : bt t 0 = 103
  · refine ⟨1, ?_⟩
    simp only [gemotref1_Exponents_p.l0]
    rw [if_pos (by omega), if_neg (by omega)]
    unfold expsF
    rw [if_pos c]
  · have hc := elem_cases h
    have hne : expsF t ≠ [] := by
      intro q
      have h1 := hc.1
      rw [q] at h1
      have : elmOf [] = ⟨#[103]⟩ := rfl
      rw [this] at h1
      rw [h1] at c
      exact c rfl
    have n := elmOf_node hne hc.2.1 (fun x hx => ⟨(hc.2.2.1 x hx).1, (hc.2.2.1 x hx).2.1⟩)
    rw [← hc.1, sortB_of_sorted hc.2.2.2] at n
    have hl : Lies t (cat (expsF t)) 2 := by
      have := Lies.last (⟨#[101, UInt8.ofNat (expsF t).length]⟩ : ByteArray) (cat (expsF t))
      rw [← n.eq] at this
      exact this
    have hz := congrArg ByteArray.size n.eq
    rw [ByteArray.size_append] at hz
    obtain ⟨K, hK⟩ := gemotref1_Exponents.loop hp.2 (by omega) hp.1 (expsF t) 2 [] hl (by rw [hz]; rfl) (fun x hx => (hc.2.2.1 x hx).1) (by simp)
    exact ⟨K, hK K (Nat.le_refl _)⟩
theorem gemotref1_Exponents.calls (a0 : ByteArray) (r : List ByteArray) (w : World) (h : gemotref1_Exponents.f a0 = some r) :
    Calls Try.prog 138 #[.string a0] w fun e w' => ∃ v0_ : Value, e = .returned (v0_) ∧ Kd.R Kd.string 9 w' w.heap.size (fun _ => True) v0_ r ∧ Below w.heap.size w w' := by
  unfold gemotref1_Exponents.f at h
  split at h
  case isFalse => cases h
  rename_i hs
  obtain ⟨k, hk⟩ := gemotref1_Exponents.eq a0 hs
  exact gemotref1_Exponents_p.calls k a0 r w (hk.trans h)

end Go.Proofs.Ytpfpmjdifnoeoaa.F
namespace Go.Proofs.Ytpfpmjdifnoeoaa.F
open Go.RowKit Go.Proofs.YtpfpmjdifnoeoaaW.PrintWords Go.Proofs.YtpfpmjdifnoeoaaW.PrintLast Go.Proofs.YtpfpmjdifnoeoaaW.PrintMore
attribute [local go_sem] max2_int min2_int max_two min_two max_three min_three max_four min_four
set_option linter.unusedVariables false
set_option linter.unusedSimpArgs false

/-! ### gemotref1_made: function 139 -/
/-! #### gemotref1_made_p: function 139 -/
def gemotref1_made_p.f (a0 : ByteArray) : Option (ByteArray × Int) := if (a0.size : Int) > 20000 then (some ((⟨#[]⟩ : ByteArray), 3)) else ((gemotref1_Right.f a0).bind fun t427 => (if t427 = true then (some (a0, 0)) else (some ((⟨#[]⟩ : ByteArray), 4))))
set_option maxHeartbeats 8000000 in
set_option maxRecDepth 100000 in
theorem gemotref1_made_p.calls (a0 : ByteArray) (r1 : ByteArray) (r2 : Int) (w : World) (h : gemotref1_made_p.f a0 = some (r1, r2)) :
    Calls Try.prog 139 #[.string a0] w fun e w' => e = .returned (.tuple #[.string r1, .int .i64 r2]) ∧ Below w.heap.size w w' := by
  have HB := Aside0.mk (Below.refl w.heap.size w)
  have H : (if (a0.size : Int) > 20000 then (some ((⟨#[]⟩ : ByteArray), 3)) else ((gemotref1_Right.f a0).bind fun t427 => (if t427 = true then (some (a0, 0)) else (some ((⟨#[]⟩ : ByteArray), 4))))) = some (r1, r2) := h
  clear h
  by_cases c2 : (a0.size : Int) > 20000
  · rw [if_pos c2] at H
    have c2b0 : decide (20000 < (a0.size : Int)) = true := decide_eq_true c2
    have c2b1 : decide (20000 < a0.size) = true := decide_eq_true (by omega)
    clear c2
    simp only [Option.some.injEq, Prod.mk.injEq] at H
    obtain ⟨rfl, rfl⟩ := H
    go_enter Try.func139, Try.ntmps139
    go_wp2
    go_ret2
    exact ⟨by first | rfl | (simp [errW_none, errW_some] <;> rfl) | (simp [*, errW_none, errW_some] <;> rfl), by repeat (first | (with_reducible first | exact HB.out | apply below_alloc | apply pw_below_drewN | apply below_drew1) | exact HB.out)⟩
  · rw [if_neg c2] at H
    have c2b0 : decide (20000 < (a0.size : Int)) = false := decide_eq_false c2
    have c2b1 : decide (20000 < a0.size) = false := decide_eq_false (by omega)
    clear c2
    replace H := Option.bind_eq_some_iff.mp H
    obtain ⟨t427, A30, H⟩ := H
    replace H : (if t427 = true then (some (a0, 0)) else (some ((⟨#[]⟩ : ByteArray), 4))) = some (r1, r2) := H
    have A3 := Aside0.mk A30
    clear A30
    by_cases c4 : t427 = true
    · subst c4
      have H1 : (some (a0, 0)) = some (r1, r2) := by rw [if_pos rfl] at H; exact H
      clear H
      have H := H1
      clear H1
      simp only [Option.some.injEq, Prod.mk.injEq] at H
      obtain ⟨rfl, rfl⟩ := H
      go_enter Try.func139, Try.ntmps139
      go_wp2_with (first | ((with_reducible refine gate_callee (f := 114) rfl ?_); refine goesL_ (some 8) rfl rfl Try.func114 (by kernel_rfl) rfl #[.string a0] rfl (by (try simp only [List.map_toArray, List.map_cons, List.map_nil]); first | done | rfl | (simp only [List.length_drop, List.length_take]; rfl)) ?_; (with_reducible refine (gemotref1_Right.calls a0 true _ A3.out).mono ?_); rintro e w5 ⟨rfl, hb⟩; refine ⟨_, rfl, ?_⟩; have n0_ := Aside0.mk (below_step (by repeat (first | (with_reducible first | exact HB.out | apply below_alloc | apply pw_below_drewN | apply below_drew1) | exact HB.out)) hb); clear HB; have HB := n0_; clear n0_; (try clear hb); (try clear hb2); (try clear hk); (try clear hi)))
      go_ret2
      exact ⟨by first | rfl | (simp [errW_none, errW_some] <;> rfl) | (simp [*, errW_none, errW_some] <;> rfl), by repeat (first | (with_reducible first | exact HB.out | apply below_alloc | apply pw_below_drewN | apply below_drew1) | exact HB.out)⟩
    · replace c4 := Bool.eq_false_iff.mpr c4
      subst c4
      have H1 : (some ((⟨#[]⟩ : ByteArray), 4)) = some (r1, r2) := by rw [if_neg (show ¬ (false = true) by decide)] at H; exact H
      clear H
      have H := H1
      clear H1
      simp only [Option.some.injEq, Prod.mk.injEq] at H
      obtain ⟨rfl, rfl⟩ := H
      go_enter Try.func139, Try.ntmps139
      go_wp2_with (first | ((with_reducible refine gate_callee (f := 114) rfl ?_); refine goesL_ (some 8) rfl rfl Try.func114 (by kernel_rfl) rfl #[.string a0] rfl (by (try simp only [List.map_toArray, List.map_cons, List.map_nil]); first | done | rfl | (simp only [List.length_drop, List.length_take]; rfl)) ?_; (with_reducible refine (gemotref1_Right.calls a0 false _ A3.out).mono ?_); rintro e w6 ⟨rfl, hb⟩; refine ⟨_, rfl, ?_⟩; have n0_ := Aside0.mk (below_step (by repeat (first | (with_reducible first | exact HB.out | apply below_alloc | apply pw_below_drewN | apply below_drew1) | exact HB.out)) hb); clear HB; have HB := n0_; clear n0_; (try clear hb); (try clear hb2); (try clear hk); (try clear hi)))
      go_ret2
      exact ⟨by first | rfl | (simp [errW_none, errW_some] <;> rfl) | (simp [*, errW_none, errW_some] <;> rfl), by repeat (first | (with_reducible first | exact HB.out | apply below_alloc | apply pw_below_drewN | apply below_drew1) | exact HB.out)⟩

def gemotref1_made.f (t : ByteArray) : Option (ByteArray × Int) := some (wholeF t)
theorem gemotref1_made.eq (t : ByteArray) : gemotref1_made_p.f t = gemotref1_made.f t := by
  unfold gemotref1_made_p.f gemotref1_Right.f gemotref1_made.f wholeF
  by_cases c : 20000 < t.size
  · rw [if_pos c, if_pos (by omega)]
  · rw [if_neg c, if_neg (by omega), if_pos (by omega)]
    simp only [Option.bind_some]
    split <;> rfl
theorem gemotref1_made.calls (a0 : ByteArray) (r1 : ByteArray) (r2 : Int) (w : World) (h : gemotref1_made.f a0 = some (r1, r2)) :
    Calls Try.prog 139 #[.string a0] w fun e w' => e = .returned (.tuple #[.string r1, .int .i64 r2]) ∧ Below w.heap.size w w' :=
  gemotref1_made_p.calls a0 r1 r2 w ((gemotref1_made.eq a0).trans h)

end Go.Proofs.Ytpfpmjdifnoeoaa.F
namespace Go.Proofs.Ytpfpmjdifnoeoaa.F
open Go.RowKit Go.Proofs.YtpfpmjdifnoeoaaW.PrintWords Go.Proofs.YtpfpmjdifnoeoaaW.PrintLast Go.Proofs.YtpfpmjdifnoeoaaW.PrintMore
attribute [local go_sem] max2_int min2_int max_two min_two max_three min_three max_four min_four
set_option linter.unusedVariables false
set_option linter.unusedSimpArgs false

/-! ### gemotref1_Power: function 89 -/
/-! #### gemotref1_Power_p: function 89 -/
def gemotref1_Power_p.j0 : Nat → ByteArray → ByteArray → Bool → Option (ByteArray × Int)
  | 0, _, _, _ => none
  | k + 1, x0, x1, x14 => if x14 = true then (some ((⟨#[]⟩ : ByteArray), 1)) else ((gemotref1_Exponents.f x0).bind fun t866 => (if t866.length < 8796093022208 then ((some (t866 ++ [x1] : List ByteArray)).bind fun y869 => (if (y869.length : Int) > 32 then (some ((⟨#[]⟩ : ByteArray), 3)) else ((gemotref1_Raised.f y869).bind fun t872 => ((gemotref1_made.f t872).bind fun bt873 => (some (bt873.1, bt873.2)))))) else (none)))
def gemotref1_Power_p.f (k : Nat) (a0 : ByteArray) (a1 : ByteArray) : Option (ByteArray × Int) := (gemotref1_element.f a0).bind fun t864 => (if t864 = true then ((gemotref1_Right.f a1).bind fun t865 => (gemotref1_Power_p.j0 k a0 a1 (!t865))) else (gemotref1_Power_p.j0 k a0 a1 true))
theorem gemotref1_Power_p.mono_l : ∀ k, (∀ y0 y1 y2, LeO (gemotref1_Power_p.j0 k y0 y1 y2) (gemotref1_Power_p.j0 (k + 1) y0 y1 y2))
  | 0 => fun _ _ _ r h => by simp [gemotref1_Power_p.j0] at h
  | k + 1 => by
    have ih0 := gemotref1_Power_p.mono_l k
    · intro y0 y1 y2
      unfold gemotref1_Power_p.j0
      repeat' first
      | (with_reducible exact ih0 _ _ _)
      | (with_reducible exact LeO.refl _)
      | (with_reducible exact LeO.none _)
      | (with_reducible refine LeO.ite ?_ ?_)
      | (with_reducible refine LeO.bind ?_ (fun _ => ?_))
      | exact ih0 _ _ _
      | exact LeO.none _
      | refine LeO.ite ?_ ?_
      | refine LeO.bind ?_ (fun _ => ?_)
theorem gemotref1_Power_p.mono : ∀ a0 a1 k, LeO (gemotref1_Power_p.f k a0 a1) (gemotref1_Power_p.f (k + 1) a0 a1) := by
  intro a0 a1 k
  have ih0 := gemotref1_Power_p.mono_l k
  unfold gemotref1_Power_p.f
  repeat' first
      | (with_reducible exact ih0 _ _ _)
      | (with_reducible exact LeO.refl _)
      | (with_reducible exact LeO.none _)
      | (with_reducible refine LeO.ite ?_ ?_)
      | (with_reducible refine LeO.bind ?_ (fun _ => ?_))
      | exact ih0 _ _ _
      | exact LeO.none _
      | refine LeO.ite ?_ ?_
      | refine LeO.bind ?_ (fun _ => ?_)
set_option maxHeartbeats 8000000 in
set_option maxRecDepth 100000 in
theorem gemotref1_Power_p.calls (k : Nat) (a0 : ByteArray) (a1 : ByteArray) (r1 : ByteArray) (r2 : Int) (w : World) (h : gemotref1_Power_p.f k a0 a1 = some (r1, r2)) :
    Calls Try.prog 89 #[.string a0, .string a1] w fun e w' => e = .returned (.tuple #[.string r1, .int .i64 r2]) ∧ Below w.heap.size w w' := by
  have HB := Aside0.mk (Below.refl w.heap.size w)
  have H : ((gemotref1_element.f a0).bind fun t864 => (if t864 = true then ((gemotref1_Right.f a1).bind fun t865 => (gemotref1_Power_p.j0 k a0 a1 (!t865))) else (gemotref1_Power_p.j0 k a0 a1 true))) = some (r1, r2) := h
  clear h
  have HC3 := Aside0.mk H
  clear H
  go_enter Try.func89, Try.ntmps89
  go_upto_region 1 with (fail)
  go_cut [14] (fun v14 wc => ∃ (kq : Nat) (x14_2 : Bool), v14 = .bool x14_2 ∧ Aside0 (gemotref1_Power_p.j0 kq a0 a1 x14_2 = some (r1, r2)) ∧ Aside0 (kq ≤ k) ∧ Aside0 (Below w.heap.size w wc))
  case first =>
    have H := HC3.out
    clear HC3
    replace H := Option.bind_eq_some_iff.mp H
    obtain ⟨t864, A40, H⟩ := H
    replace H : (if t864 = true then ((gemotref1_Right.f a1).bind fun t865 => (gemotref1_Power_p.j0 k a0 a1 (!t865))) else (gemotref1_Power_p.j0 k a0 a1 true)) = some (r1, r2) := H
    have A4 := Aside0.mk A40
    clear A40
    by_cases c5 : t864 = true
    · subst c5
      have H1 : ((gemotref1_Right.f a1).bind fun t865 => (gemotref1_Power_p.j0 k a0 a1 (!t865))) = some (r1, r2) := by rw [if_pos rfl] at H; exact H
      clear H
      have H := H1
      clear H1
      replace H := Option.bind_eq_some_iff.mp H
      obtain ⟨t865, A60, H⟩ := H
      replace H : (gemotref1_Power_p.j0 k a0 a1 (!t865)) = some (r1, r2) := H
      have A6 := Aside0.mk A60
      clear A60
      have H' := Aside0.mk H
      clear H
      go_wp2_with (first | ((with_reducible refine gate_callee (f := 137) rfl ?_); refine goesL_ (some 8) rfl rfl Try.func137 (by kernel_rfl) rfl #[.string a0] rfl (by (try simp only [List.map_toArray, List.map_cons, List.map_nil]); first | done | rfl | (simp only [List.length_drop, List.length_take]; rfl)) ?_; (with_reducible refine (gemotref1_element.calls a0 true _ A4.out).mono ?_); rintro e w7 ⟨rfl, hb⟩; refine ⟨_, rfl, ?_⟩; have n0_ := Aside0.mk (below_step (by repeat (first | (with_reducible first | exact HB.out | apply below_alloc | apply pw_below_drewN | apply below_drew1) | exact HB.out)) hb); clear HB; have HB := n0_; clear n0_; (try clear hb); (try clear hb2); (try clear hk); (try clear hi)) | (go_at_call 114; (with_reducible refine (gemotref1_Right.calls a1 t865 _ A6.out).mono ?_); rintro e w8 ⟨rfl, hb⟩; have n0_ := Aside0.mk (below_step (by repeat (first | (with_reducible first | exact HB.out | apply below_alloc | apply pw_below_drewN | apply below_drew1) | exact HB.out)) hb); clear HB; have HB := n0_; clear n0_; (try clear hb); (try clear hb2); (try clear hk); (try clear hi)))
      go_meet
      case rel => exact ⟨_, (!t865), (by first | rfl | (simp; done) | (simp [*]; done)), H', ⟨by first | omega | exact Nat.le_refl _⟩, ⟨by repeat (first | (with_reducible first | exact HB.out | apply below_alloc | apply pw_below_drewN | apply below_drew1) | exact HB.out)⟩⟩
    · replace c5 := Bool.eq_false_iff.mpr c5
      subst c5
      have H1 : (gemotref1_Power_p.j0 k a0 a1 true) = some (r1, r2) := by rw [if_neg (show ¬ (false = true) by decide)] at H; exact H
      clear H
      have H := H1
      clear H1
      have H' := Aside0.mk H
      clear H
      go_wp2_with (first | ((with_reducible refine gate_callee (f := 137) rfl ?_); refine goesL_ (some 8) rfl rfl Try.func137 (by kernel_rfl) rfl #[.string a0] rfl (by (try simp only [List.map_toArray, List.map_cons, List.map_nil]); first | done | rfl | (simp only [List.length_drop, List.length_take]; rfl)) ?_; (with_reducible refine (gemotref1_element.calls a0 false _ A4.out).mono ?_); rintro e w9 ⟨rfl, hb⟩; refine ⟨_, rfl, ?_⟩; have n0_ := Aside0.mk (below_step (by repeat (first | (with_reducible first | exact HB.out | apply below_alloc | apply pw_below_drewN | apply below_drew1) | exact HB.out)) hb); clear HB; have HB := n0_; clear n0_; (try clear hb); (try clear hb2); (try clear hk); (try clear hi)))
      go_meet
      case rel => exact ⟨_, (true), (by first | rfl | (simp; done) | (simp [*]; done)), H', ⟨by first | omega | exact Nat.le_refl _⟩, ⟨by repeat (first | (with_reducible first | exact HB.out | apply below_alloc | apply pw_below_drewN | apply below_drew1) | exact HB.out)⟩⟩
  case rest =>
    clear HC3
    try clear c1
    try clear p2
    try clear c5
    try clear c8
    obtain ⟨kq, x14_2, rfl, HA, HJ2, HB⟩ := hcut
    cases kq with
    | zero => exact absurd HA.out (by simp [gemotref1_Power_p.j0])
    | succ kj2 =>
      have H := HA.out
      clear HA
      simp only [gemotref1_Power_p.j0] at H
      by_cases c10 : x14_2 = true
      · subst c10
        have H1 : (some ((⟨#[]⟩ : ByteArray), 1)) = some (r1, r2) := by rw [if_pos rfl] at H; exact H
        clear H
        have H := H1
        clear H1
        simp only [Option.some.injEq, Prod.mk.injEq] at H
        obtain ⟨rfl, rfl⟩ := H
        go_wp2
        go_ret2
        exact ⟨by first | rfl | (simp [errW_none, errW_some] <;> rfl) | (simp [*, errW_none, errW_some] <;> rfl), by repeat (first | (with_reducible first | exact HB.out | apply below_alloc | apply pw_below_drewN | apply below_drew1) | exact HB.out)⟩
      · replace c10 := Bool.eq_false_iff.mpr c10
        subst c10
        have H1 : ((gemotref1_Exponents.f a0).bind fun t866 => (if t866.length < 8796093022208 then ((some (t866 ++ [a1] : List ByteArray)).bind fun y869 => (if (y869.length : Int) > 32 then (some ((⟨#[]⟩ : ByteArray), 3)) else ((gemotref1_Raised.f y869).bind fun t872 => ((gemotref1_made.f t872).bind fun bt873 => (some (bt873.1, bt873.2)))))) else (none))) = some (r1, r2) := by rw [if_neg (show ¬ (false = true) by decide)] at H; exact H
        clear H
        have H := H1
        clear H1
        replace H := Option.bind_eq_some_iff.mp H
        obtain ⟨t866, A110, H⟩ := H
        replace H : (if t866.length < 8796093022208 then ((some (t866 ++ [a1] : List ByteArray)).bind fun y869 => (if (y869.length : Int) > 32 then (some ((⟨#[]⟩ : ByteArray), 3)) else ((gemotref1_Raised.f y869).bind fun t872 => ((gemotref1_made.f t872).bind fun bt873 => (some (bt873.1, bt873.2)))))) else (none)) = some (r1, r2) := H
        have A11 := Aside0.mk A110
        clear A110
        by_cases c12 : t866.length < 8796093022208
        · rw [if_pos c12] at H
          have LMc12 := Aside0.mk c12
          clear c12
          obtain ⟨y869, hy869⟩ : ∃ y_ : List ByteArray, y_ = (t866 ++ [a1]) := ⟨_, rfl⟩
          replace H : (if (y869.length : Int) > 32 then (some ((⟨#[]⟩ : ByteArray), 3)) else ((gemotref1_Raised.f y869).bind fun t872 => ((gemotref1_made.f t872).bind fun bt873 => (some (bt873.1, bt873.2))))) = some (r1, r2) := by first | (rw [hy869]; with_reducible exact H) | (have H2_ := (Option.bind_some _ _).symm.trans H; rw [hy869]; with_reducible exact H2_) | (have H2_ := (Option.bind_some _ _).symm.trans H; with_reducible exact H2_) | with_reducible exact H | (rw [hy869]; exact H) | exact H
          have Ny869 := Aside0.mk hy869
          clear hy869
          by_cases c13 : (y869.length : Int) > 32
          · rw [if_pos c13] at H
            have c13b0 : decide (32 < (y869.length : Int)) = true := decide_eq_true c13
            have c13b1 : decide (32 < y869.length) = true := decide_eq_true (by omega)
            clear c13
            simp only [Option.some.injEq, Prod.mk.injEq] at H
            obtain ⟨rfl, rfl⟩ := H
            go_wp2_with (first | ((with_reducible refine gate_callee (f := 138) rfl ?_); refine goesL_ (some 16) rfl rfl Try.func138 (by kernel_rfl) rfl #[.string a0] rfl (by (try simp only [List.map_toArray, List.map_cons, List.map_nil]); first | done | rfl | (simp only [List.length_drop, List.length_take]; rfl)) ?_; (with_reducible refine (gemotref1_Exponents.calls a0 t866 _ A11.out).mono ?_); rintro e w14 ⟨v867, rfl, ho0, hb⟩; refine ⟨_, rfl, ?_⟩; have n0_ := Aside0.mk (Kd.R_lower ho0 (below_size (by repeat (first | (with_reducible first | exact HB.out | apply below_alloc | apply pw_below_drewN | apply below_drew1) | exact HB.out)))); have n1_ := Aside0.mk (below_step (by repeat (first | (with_reducible first | exact HB.out | apply below_alloc | apply pw_below_drewN | apply below_drew1) | exact HB.out)) hb); clear HB; have HO868 := n0_; have HB := n1_; clear n0_ n1_; (try clear hb); (try clear hb2); (try clear hk); (try clear hi); (try clear ho0)) | ((with_reducible refine gate_builtin (b := .append) (xs := #[.tmp 16, .tmp 18]) rfl ?_); at_builtin; refine Kd.R_append Kd.string (w0 := w) w.heap.size rfl (.tmp 16) (.tmp 18) 43 9 (.string ⟨#[]⟩) 16 rfl Try.underlying43 info9 rfl (by decide) (by omega) v867 t866 a1 [.string a1] (fun _ => True) (fun _ => False) rfl rfl ?aP (fun _ hk => hk.elim) ?aF ?aO ?aB ?aS ?aL ?_; (case aP => exact rfl); (case aB => exact (by repeat (first | (with_reducible first | exact HB.out | apply below_alloc | apply pw_below_drewN | apply below_drew1) | exact HB.out))); (case aF => exact (fun _ _ => trivial)); (case aO => exact (by (with_reducible repeat (first | apply Kd.R_alloc | apply Kd.R_drewN | apply Kd.R_drew)); exact HO868.out)); (case aS => exact (below_size (by repeat (first | (with_reducible first | exact HB.out | apply below_alloc | apply pw_below_drewN | apply below_drew1) | exact HB.out)))); (case aL => have := LMc12.out; omega); intro v870 w15 ho hb hg hat; rw [← Ny869.out] at ho; have n0_ := Aside0.mk (hb); have n1_ := Aside0.mk (ho); clear HB; clear HO868; have HB := n0_; have HO871 := n1_; clear n0_ n1_; clear ho hb hg hat; obtain ⟨Ao16, co16, eo16⟩ := Kd.R_slice HO871.out; subst eo16))
            go_ret2
            exact ⟨by first | rfl | (simp [errW_none, errW_some] <;> rfl) | (simp [*, errW_none, errW_some] <;> rfl), by repeat (first | (with_reducible first | exact HB.out | apply below_alloc | apply pw_below_drewN | apply below_drew1) | exact HB.out)⟩
          · rw [if_neg c13] at H
            have c13b0 : decide (32 < (y869.length : Int)) = false := decide_eq_false c13
            have c13b1 : decide (32 < y869.length) = false := decide_eq_false (by omega)
            clear c13
            replace H := Option.bind_eq_some_iff.mp H
            obtain ⟨t872, A170, H⟩ := H
            replace H : ((gemotref1_made.f t872).bind fun bt873 => (some (bt873.1, bt873.2))) = some (r1, r2) := H
            have A17 := Aside0.mk A170
            clear A170
            replace H := Option.bind_eq_some_iff.mp H
            obtain ⟨⟨t873, t874⟩, A180, H⟩ := H
            replace H : (some (t873, t874)) = some (r1, r2) := H
            have A18 := Aside0.mk A180
            clear A180
            simp only [Option.some.injEq, Prod.mk.injEq] at H
            obtain ⟨rfl, rfl⟩ := H
            go_wp2_with (first | ((with_reducible refine gate_callee (f := 138) rfl ?_); refine goesL_ (some 16) rfl rfl Try.func138 (by kernel_rfl) rfl #[.string a0] rfl (by (try simp only [List.map_toArray, List.map_cons, List.map_nil]); first | done | rfl | (simp only [List.length_drop, List.length_take]; rfl)) ?_; (with_reducible refine (gemotref1_Exponents.calls a0 t866 _ A11.out).mono ?_); rintro e w19 ⟨v867, rfl, ho0, hb⟩; refine ⟨_, rfl, ?_⟩; have n0_ := Aside0.mk (Kd.R_lower ho0 (below_size (by repeat (first | (with_reducible first | exact HB.out | apply below_alloc | apply pw_below_drewN | apply below_drew1) | exact HB.out)))); have n1_ := Aside0.mk (below_step (by repeat (first | (with_reducible first | exact HB.out | apply below_alloc | apply pw_below_drewN | apply below_drew1) | exact HB.out)) hb); clear HB; have HO868 := n0_; have HB := n1_; clear n0_ n1_; (try clear hb); (try clear hb2); (try clear hk); (try clear hi); (try clear ho0)) | ((with_reducible refine gate_builtin (b := .append) (xs := #[.tmp 16, .tmp 18]) rfl ?_); at_builtin; refine Kd.R_append Kd.string (w0 := w) w.heap.size rfl (.tmp 16) (.tmp 18) 43 9 (.string ⟨#[]⟩) 16 rfl Try.underlying43 info9 rfl (by decide) (by omega) v867 t866 a1 [.string a1] (fun _ => True) (fun _ => False) rfl rfl ?aP (fun _ hk => hk.elim) ?aF ?aO ?aB ?aS ?aL ?_; (case aP => exact rfl); (case aB => exact (by repeat (first | (with_reducible first | exact HB.out | apply below_alloc | apply pw_below_drewN | apply below_drew1) | exact HB.out))); (case aF => exact (fun _ _ => trivial)); (case aO => exact (by (with_reducible repeat (first | apply Kd.R_alloc | apply Kd.R_drewN | apply Kd.R_drew)); exact HO868.out)); (case aS => exact (below_size (by repeat (first | (with_reducible first | exact HB.out | apply below_alloc | apply pw_below_drewN | apply below_drew1) | exact HB.out)))); (case aL => have := LMc12.out; omega); intro v870 w20 ho hb hg hat; rw [← Ny869.out] at ho; have n0_ := Aside0.mk (hb); have n1_ := Aside0.mk (ho); clear HB; clear HO868; have HB := n0_; have HO871 := n1_; clear n0_ n1_; clear ho hb hg hat; obtain ⟨Ao21, co21, eo21⟩ := Kd.R_slice HO871.out; subst eo21) | ((with_reducible refine gate_callee (f := 140) rfl ?_); refine goesL_ (some 24) rfl rfl Try.func140 (by kernel_rfl) rfl #[.slice Ao21 y869.length co21] rfl (by (try simp only [List.map_toArray, List.map_cons, List.map_nil]); first | done | rfl | (simp only [List.length_drop, List.length_take]; rfl)) ?_; (with_reducible refine (gemotref1_Raised.calls _ _ y869 t872 _ ?side1 ?side2 A17.out).mono ?_); (case side1 => repeat (first | exact (Kd.R_reads' HO871.out).2.2 | (with_reducible refine Kd.C_alloc ?_ _) | (with_reducible refine Kd.C_drewN ?_ _) | (with_reducible refine Kd.C_drew ?_))); (case side2 => exact (Kd.R_reads' HO871.out).2.1); rintro e w22 ⟨rfl, hb⟩; refine ⟨_, rfl, ?_⟩; have n0_ := Aside0.mk (Kd.R_below (by (with_reducible repeat (first | apply Kd.R_alloc | apply Kd.R_drewN | apply Kd.R_drew)); exact HO871.out) hb); have n1_ := Aside0.mk (below_step (by repeat (first | (with_reducible first | exact HB.out | apply below_alloc | apply pw_below_drewN | apply below_drew1) | exact HB.out)) hb); clear HO871; clear HB; have HO871 := n0_; have HB := n1_; clear n0_ n1_; (try clear hb); (try clear hb2); (try clear hk); (try clear hi)) | ((with_reducible refine gate_callee (f := 139) rfl ?_); refine goesL_ (some 25) rfl rfl Try.func139 (by kernel_rfl) rfl #[.string t872] rfl (by (try simp only [List.map_toArray, List.map_cons, List.map_nil]); first | done | rfl | (simp only [List.length_drop, List.length_take]; rfl)) ?_; (with_reducible refine (gemotref1_made.calls t872 t873 t874 _ A18.out).mono ?_); rintro e w23 ⟨rfl, hb⟩; refine ⟨_, rfl, ?_⟩; have n0_ := Aside0.mk (Kd.R_below (by (with_reducible repeat (first | apply Kd.R_alloc | apply Kd.R_drewN | apply Kd.R_drew)); exact HO871.out) hb); have n1_ := Aside0.mk (below_step (by repeat (first | (with_reducible first | exact HB.out | apply below_alloc | apply pw_below_drewN | apply below_drew1) | exact HB.out)) hb); clear HO871; clear HB; have HO871 := n0_; have HB := n1_; clear n0_ n1_; (try clear hb); (try clear hb2); (try clear hk); (try clear hi)))
            go_ret2
            exact ⟨by first | rfl | (simp [errW_none, errW_some] <;> rfl) | (simp [*, errW_none, errW_some] <;> rfl), by repeat (first | (with_reducible first | exact HB.out | apply below_alloc | apply pw_below_drewN | apply below_drew1) | exact HB.out)⟩
        · rw [if_neg c12] at H
          exact absurd H (by simp)

open Go.Proofs.Ytpfpmjdifnoeoaa.Pure
def gemotref1_Power.f (a b : ByteArray) : Option (ByteArray × Int) := if a.size < 9223372036854770000 ∧ b.size < 9223372036854770000 then some (powF a b) else none
theorem gemotref1_Power.eq (a b : ByteArray) (h : a.size < 9223372036854770000 ∧ b.size < 9223372036854770000) : gemotref1_Power_p.f 5 a b = gemotref1_Power.f a b := by
  unfold gemotref1_Power_p.f gemotref1_Power.f gemotref1_element.f gemotref1_Right.f
  rw [if_pos h.1, if_pos h.2, if_pos h]
  simp only [Option.bind_some]
  by_cases ha : elemB a = true
  · rw [if_pos ha]
    by_cases hb : rightB b = true
    · have hc := elem_cases ha
      have hbr := (right_iff b).mp hb
      rw [pow_eq ha hb, hb]
      simp only [gemotref1_Power_p.j0, Bool.not_true, Bool.false_eq_true, if_false]
      unfold gemotref1_Exponents.f
      rw [if_pos ha]
      simp only [Option.bind_some]
      rw [if_pos (by omega), List.length_append]
      by_cases c : 32 < (expsF a).length + 1
      · rw [if_pos c, if_pos (by simp; omega)]
      · rw [if_neg c, if_neg (by simp; omega)]
        unfold gemotref1_Raised.f gemotref1_made.f
        rw [if_pos ⟨by rw [List.length_append]; simp; omega, fun x hx => by
          rcases List.mem_append.mp hx with q | q
          · exact (hc.2.2.1 x q).2.2
          · rw [List.mem_singleton.mp q]; exact hbr.2⟩]
        rfl
    · have hb' : rightB b = false := by simpa using hb
      rw [hb']
      unfold powF
      rw [if_pos ha, if_neg hb]
      rfl
  · rw [if_neg ha]
    unfold powF
    rw [if_neg ha]
    rfl
theorem gemotref1_Power.calls (a0 : ByteArray) (a1 : ByteArray) (r1 : ByteArray) (r2 : Int) (w : World) (h : gemotref1_Power.f a0 a1 = some (r1, r2)) :
    Calls Try.prog 89 #[.string a0, .string a1] w fun e w' => e = .returned (.tuple #[.string r1, .int .i64 r2]) ∧ Below w.heap.size w w' := by
  have hs : a0.size < 9223372036854770000 ∧ a1.size < 9223372036854770000 := by
    unfold gemotref1_Power.f at h
    split at h
    · assumption
    · cases h
  exact gemotref1_Power_p.calls 5 a0 a1 r1 r2 w ((gemotref1_Power.eq a0 a1 hs).trans h)

end Go.Proofs.Ytpfpmjdifnoeoaa.F
namespace Go.Proofs.Ytpfpmjdifnoeoaa.F
open Go.RowKit Go.Proofs.YtpfpmjdifnoeoaaW.PrintWords Go.Proofs.YtpfpmjdifnoeoaaW.PrintLast Go.Proofs.YtpfpmjdifnoeoaaW.PrintMore
attribute [local go_sem] max2_int min2_int max_two min_two max_three min_three max_four min_four
set_option linter.unusedVariables false
set_option linter.unusedSimpArgs false

/-! ### gemotref1_Key: function 91 -/
/-! #### gemotref1_Key_p: function 91 -/
def gemotref1_Key_p.f (a0 : ByteArray) : Option (ByteArray × Int) := (gemotref1_element.f a0).bind fun t878 => (if t878 = true then (if 1 + a0.size ≤ 9223372036854775807 then ((gemotref1_made.f ((⟨#[107]⟩ : ByteArray) ++ a0)).bind fun bt879 => (some (bt879.1, bt879.2))) else (none)) else (some ((⟨#[]⟩ : ByteArray), 1)))
set_option maxHeartbeats 8000000 in
set_option maxRecDepth 100000 in
theorem gemotref1_Key_p.calls (a0 : ByteArray) (r1 : ByteArray) (r2 : Int) (w : World) (h : gemotref1_Key_p.f a0 = some (r1, r2)) :
    Calls Try.prog 91 #[.string a0] w fun e w' => e = .returned (.tuple #[.string r1, .int .i64 r2]) ∧ Below w.heap.size w w' := by
  have HB := Aside0.mk (Below.refl w.heap.size w)
  have H : ((gemotref1_element.f a0).bind fun t878 => (if t878 = true then (if 1 + a0.size ≤ 9223372036854775807 then ((gemotref1_made.f ((⟨#[107]⟩ : ByteArray) ++ a0)).bind fun bt879 => (some (bt879.1, bt879.2))) else (none)) else (some ((⟨#[]⟩ : ByteArray), 1)))) = some (r1, r2) := h
  clear h
  replace H := Option.bind_eq_some_iff.mp H
  obtain ⟨t878, A20, H⟩ := H
  replace H : (if t878 = true then (if 1 + a0.size ≤ 9223372036854775807 then ((gemotref1_made.f ((⟨#[107]⟩ : ByteArray) ++ a0)).bind fun bt879 => (some (bt879.1, bt879.2))) else (none)) else (some ((⟨#[]⟩ : ByteArray), 1))) = some (r1, r2) := H
  have A2 := Aside0.mk A20
  clear A20
  by_cases c3 : t878 = true
  · subst c3
    have H1 : (if 1 + a0.size ≤ 9223372036854775807 then ((gemotref1_made.f ((⟨#[107]⟩ : ByteArray) ++ a0)).bind fun bt879 => (some (bt879.1, bt879.2))) else (none)) = some (r1, r2) := by rw [if_pos rfl] at H; exact H
    clear H
    have H := H1
    clear H1
    by_cases c4 : 1 + a0.size ≤ 9223372036854775807
    · rw [if_pos c4] at H
      have c4b0 := eq_true c4
      have c4b1 : decide (1 + a0.size ≤ 9223372036854775807) = true := decide_eq_true c4
      try have c4b2 : (9223372036854775807 < 1 + a0.size) = False := eq_false (Nat.not_lt.2 c4)
      replace H := Option.bind_eq_some_iff.mp H
      obtain ⟨⟨t879, t880⟩, A50, H⟩ := H
      replace H : (some (t879, t880)) = some (r1, r2) := H
      have A5 := Aside0.mk A50
      clear A50
      simp only [Option.some.injEq, Prod.mk.injEq] at H
      obtain ⟨rfl, rfl⟩ := H
      go_enter Try.func91, Try.ntmps91
      go_wp2_with (first | ((with_reducible refine gate_callee (f := 137) rfl ?_); refine goesL_ (some 5) rfl rfl Try.func137 (by kernel_rfl) rfl #[.string a0] rfl (by (try simp only [List.map_toArray, List.map_cons, List.map_nil]); first | done | rfl | (simp only [List.length_drop, List.length_take]; rfl)) ?_; (with_reducible refine (gemotref1_element.calls a0 true _ A2.out).mono ?_); rintro e w6 ⟨rfl, hb⟩; refine ⟨_, rfl, ?_⟩; have n0_ := Aside0.mk (below_step (by repeat (first | (with_reducible first | exact HB.out | apply below_alloc | apply pw_below_drewN | apply below_drew1) | exact HB.out)) hb); clear HB; have HB := n0_; clear n0_; (try clear hb); (try clear hb2); (try clear hk); (try clear hi)) | ((with_reducible refine gate_callee (f := 139) rfl ?_); refine goesL_ (some 9) rfl rfl Try.func139 (by kernel_rfl) rfl #[.string ((⟨#[107]⟩ : ByteArray) ++ a0)] rfl (by (try simp only [List.map_toArray, List.map_cons, List.map_nil]); first | done | rfl | (simp only [List.length_drop, List.length_take]; rfl)) ?_; (with_reducible refine (gemotref1_made.calls ((⟨#[107]⟩ : ByteArray) ++ a0) t879 t880 _ A5.out).mono ?_); rintro e w7 ⟨rfl, hb⟩; refine ⟨_, rfl, ?_⟩; have n0_ := Aside0.mk (below_step (by repeat (first | (with_reducible first | exact HB.out | apply below_alloc | apply pw_below_drewN | apply below_drew1) | exact HB.out)) hb); clear HB; have HB := n0_; clear n0_; (try clear hb); (try clear hb2); (try clear hk); (try clear hi)))
      go_ret2
      exact ⟨by first | rfl | (simp [errW_none, errW_some] <;> rfl) | (simp [*, errW_none, errW_some] <;> rfl), by repeat (first | (with_reducible first | exact HB.out | apply below_alloc | apply pw_below_drewN | apply below_drew1) | exact HB.out)⟩
    · rw [if_neg c4] at H
      exact absurd H (by simp)
  · replace c3 := Bool.eq_false_iff.mpr c3
    subst c3
    have H1 : (some ((⟨#[]⟩ : ByteArray), 1)) = some (r1, r2) := by rw [if_neg (show ¬ (false = true) by decide)] at H; exact H
    clear H
    have H := H1
    clear H1
    simp only [Option.some.injEq, Prod.mk.injEq] at H
    obtain ⟨rfl, rfl⟩ := H
    go_enter Try.func91, Try.ntmps91
    go_wp2_with (first | ((with_reducible refine gate_callee (f := 137) rfl ?_); refine goesL_ (some 5) rfl rfl Try.func137 (by kernel_rfl) rfl #[.string a0] rfl (by (try simp only [List.map_toArray, List.map_cons, List.map_nil]); first | done | rfl | (simp only [List.length_drop, List.length_take]; rfl)) ?_; (with_reducible refine (gemotref1_element.calls a0 false _ A2.out).mono ?_); rintro e w8 ⟨rfl, hb⟩; refine ⟨_, rfl, ?_⟩; have n0_ := Aside0.mk (below_step (by repeat (first | (with_reducible first | exact HB.out | apply below_alloc | apply pw_below_drewN | apply below_drew1) | exact HB.out)) hb); clear HB; have HB := n0_; clear n0_; (try clear hb); (try clear hb2); (try clear hk); (try clear hi)))
    go_ret2
    exact ⟨by first | rfl | (simp [errW_none, errW_some] <;> rfl) | (simp [*, errW_none, errW_some] <;> rfl), by repeat (first | (with_reducible first | exact HB.out | apply below_alloc | apply pw_below_drewN | apply below_drew1) | exact HB.out)⟩

def gemotref1_Key.f (t : ByteArray) : Option (ByteArray × Int) := if t.size < 9223372036854770000 then some (keyF t) else none
theorem gemotref1_Key.eq (t : ByteArray) (hs : t.size < 9223372036854770000) : gemotref1_Key_p.f t = gemotref1_Key.f t := by
  unfold gemotref1_Key_p.f gemotref1_element.f gemotref1_made.f gemotref1_Key.f keyF
  rw [if_pos hs, if_pos hs]
  simp only [Option.bind_some]
  split
  · rw [if_pos (by omega)]
  · rfl
theorem gemotref1_Key.calls (a0 : ByteArray) (r1 : ByteArray) (r2 : Int) (w : World) (h : gemotref1_Key.f a0 = some (r1, r2)) :
    Calls Try.prog 91 #[.string a0] w fun e w' => e = .returned (.tuple #[.string r1, .int .i64 r2]) ∧ Below w.heap.size w w' := by
  have hs : a0.size < 9223372036854770000 := by
    unfold gemotref1_Key.f at h
    split at h
    · assumption
    · cases h
  exact gemotref1_Key_p.calls a0 r1 r2 w ((gemotref1_Key.eq a0 hs).trans h)

end Go.Proofs.Ytpfpmjdifnoeoaa.F
namespace Go.Proofs.Ytpfpmjdifnoeoaa.F
open Go.RowKit Go.Proofs.YtpfpmjdifnoeoaaW.PrintWords Go.Proofs.YtpfpmjdifnoeoaaW.PrintLast Go.Proofs.YtpfpmjdifnoeoaaW.PrintMore
attribute [local go_sem] max2_int min2_int max_two min_two max_three min_three max_four min_four
set_option linter.unusedVariables false
set_option linter.unusedSimpArgs false

/-! ### gemotref1_Of: function 93 -/
/-! #### gemotref1_Of_p: function 93 -/
def gemotref1_Of_p.l0 : Nat → List ByteArray → ByteArray → Int → Option (ByteArray × Int)
  | 0, _, _, _ => none
  | k + 1, x1, x6, x7 => if x7 < (x1.length : Int) then (if 0 ≤ x7 then ((gemotref1_Right.f (rdOf ByteArray.empty x1 x7)).bind fun t429 => (if t429 = true then (if x6.size + (rdOf ByteArray.empty x1 x7).size ≤ 9223372036854775807 then (gemotref1_Of_p.l0 k x1 (x6 ++ (rdOf ByteArray.empty x1 x7)) (wrap64 (x7 + 1))) else (none)) else (some ((⟨#[]⟩ : ByteArray), 1)))) else (none)) else ((gemotref1_made.f x6).bind fun bt431 => (some (bt431.1, bt431.2)))
def gemotref1_Of_p.f (k : Nat) (a0 : ByteArray) (l1 : List ByteArray) : Option (ByteArray × Int) := gemotref1_Of_p.l0 k l1 a0 0
theorem gemotref1_Of_p.mono_l : ∀ k, (∀ y0 y1 y2, LeO (gemotref1_Of_p.l0 k y0 y1 y2) (gemotref1_Of_p.l0 (k + 1) y0 y1 y2))
  | 0 => fun _ _ _ r h => by simp [gemotref1_Of_p.l0] at h
  | k + 1 => by
    have ih0 := gemotref1_Of_p.mono_l k
    · intro y0 y1 y2
      unfold gemotref1_Of_p.l0
      repeat' first
      | (with_reducible exact ih0 _ _ _)
      | (with_reducible exact LeO.refl _)
      | (with_reducible exact LeO.none _)
      | (with_reducible refine LeO.ite ?_ ?_)
      | (with_reducible refine LeO.bind ?_ (fun _ => ?_))
      | exact ih0 _ _ _
      | exact LeO.none _
      | refine LeO.ite ?_ ?_
      | refine LeO.bind ?_ (fun _ => ?_)
theorem gemotref1_Of_p.mono : ∀ a0 a1 k, LeO (gemotref1_Of_p.f k a0 a1) (gemotref1_Of_p.f (k + 1) a0 a1) := by
  intro a0 a1 k
  have ih0 := gemotref1_Of_p.mono_l k
  unfold gemotref1_Of_p.f
  repeat' first
      | (with_reducible exact ih0 _ _ _)
      | (with_reducible exact LeO.refl _)
      | (with_reducible exact LeO.none _)
      | (with_reducible refine LeO.ite ?_ ?_)
      | (with_reducible refine LeO.bind ?_ (fun _ => ?_))
      | exact ih0 _ _ _
      | exact LeO.none _
      | refine LeO.ite ?_ ?_
      | refine LeO.bind ?_ (fun _ => ?_)
set_option maxHeartbeats 8000000 in
set_option maxRecDepth 100000 in
theorem gemotref1_Of_p.calls (k : Nat) (a0 : ByteArray) (A1 : Option Addr) (c1 : Nat) (l1 : List ByteArray) (r1 : ByteArray) (r2 : Int) (w : World) (hr1 : Kd.C Kd.string w A1 l1.length l1) (hc1 : l1.length ≤ c1) (h : gemotref1_Of_p.f k a0 l1 = some (r1, r2)) :
    Calls Try.prog 93 #[.string a0, .slice A1 l1.length c1] w fun e w' => e = .returned (.tuple #[.string r1, .int .i64 r2]) ∧ Below w.heap.size w w' := by
  have HR1 := Aside0.mk hr1
  have HC1 := Aside0.mk hc1
  clear hr1 hc1
  have HB := Aside0.mk (Below.refl w.heap.size w)
  have H : (gemotref1_Of_p.l0 k l1 a0 0) = some (r1, r2) := h
  clear h
  have H' := Aside0.mk H
  clear H
  go_enter Try.func93, Try.ntmps93
  go_wp2
  go_loopg [6, 7] k (fun kq v6 v7 w' => ∃ (x6_1 : ByteArray) (x7_1 : Int), v6 = .string x6_1 ∧ v7 = .int .i64 x7_1 ∧ Aside0 (gemotref1_Of_p.l0 kq l1 x6_1 x7_1 = some (r1, r2)) ∧ Aside0 (kq ≤ k) ∧ Aside0 (Below w.heap.size w w'))
  case atStart => exact ⟨(a0), (0), (by first | rfl | (simp; done) | (simp [*]; done)), (by first | rfl | (simp; done) | (simp [*]; done)), H', ⟨Nat.le_refl _⟩, ⟨by repeat (first | (with_reducible first | exact HB.out | apply below_alloc | apply pw_below_drewN | apply below_drew1) | exact HB.out)⟩⟩
  case round =>
    clear H'
    try clear c1
    try clear p2
    obtain ⟨x6_1, x7_1, rfl, rfl, HA, HK1, HB⟩ := hrel
    cases gk with
    | zero => exact absurd HA.out (by simp [gemotref1_Of_p.l0])
    | succ k1 =>
      have H := HA.out
      clear HA
      simp only [gemotref1_Of_p.l0] at H
      by_cases c3 : x7_1 < (l1.length : Int)
      · rw [if_pos c3] at H
        have c3b0 : decide (x7_1 < (l1.length : Int)) = true := decide_eq_true c3
        clear c3
        by_cases c4 : 0 ≤ x7_1
        · rw [if_pos c4] at H
          have c4b0 : decide (0 ≤ x7_1) = true := decide_eq_true c4
          clear c4
          replace H := Option.bind_eq_some_iff.mp H
          obtain ⟨t429, A50, H⟩ := H
          replace H : (if t429 = true then (if x6_1.size + (rdOf ByteArray.empty l1 x7_1).size ≤ 9223372036854775807 then (gemotref1_Of_p.l0 k1 l1 (x6_1 ++ (rdOf ByteArray.empty l1 x7_1)) (wrap64 (x7_1 + 1))) else (none)) else (some ((⟨#[]⟩ : ByteArray), 1))) = some (r1, r2) := H
          have A5 := Aside0.mk A50
          clear A50
          by_cases c6 : t429 = true
          · subst c6
            have H1 : (if x6_1.size + (rdOf ByteArray.empty l1 x7_1).size ≤ 9223372036854775807 then (gemotref1_Of_p.l0 k1 l1 (x6_1 ++ (rdOf ByteArray.empty l1 x7_1)) (wrap64 (x7_1 + 1))) else (none)) = some (r1, r2) := by rw [if_pos rfl] at H; exact H
            clear H
            have H := H1
            clear H1
            by_cases c7 : x6_1.size + (rdOf ByteArray.empty l1 x7_1).size ≤ 9223372036854775807
            · rw [if_pos c7] at H
              have c7b0 := eq_true c7
              have c7b1 : decide (x6_1.size + (rdOf ByteArray.empty l1 x7_1).size ≤ 9223372036854775807) = true := decide_eq_true c7
              try have c7b2 : (9223372036854775807 < x6_1.size + (rdOf ByteArray.empty l1 x7_1).size) = False := eq_false (Nat.not_lt.2 c7)
              have H' := Aside0.mk H
              clear H
              have p428 : 0 ≤ (x7_1 : Int) := of_decide_eq_true (by first | (with_reducible assumption) | assumption)
              have q428 : x7_1 < (l1.length : Int) := of_decide_eq_true (by first | (with_reducible assumption) | assumption)
              obtain ⟨ad428, e428, hx428_0⟩ := Kd.at_string HR1.out x7_1 p428 q428
              cases e428
              replace hx428_0 := (HB.out.cell (World.block_lt_of_cell? w _ hx428_0)).trans hx428_0
              replace p428 := eq_true p428
              replace q428 := eq_true q428
              go_wp2_with (first | ((with_reducible refine gate_callee (f := 114) rfl ?_); refine goesL_ (some 19) rfl rfl Try.func114 (by kernel_rfl) rfl #[.string (rdOf ByteArray.empty l1 x7_1)] rfl (by (try simp only [List.map_toArray, List.map_cons, List.map_nil]); first | done | rfl | (simp only [List.length_drop, List.length_take]; rfl)) ?_; (with_reducible refine (gemotref1_Right.calls (rdOf ByteArray.empty l1 x7_1) true _ A5.out).mono ?_); rintro e w8 ⟨rfl, hb⟩; refine ⟨_, rfl, ?_⟩; have n0_ := Aside0.mk (below_step (by repeat (first | (with_reducible first | exact HB.out | apply below_alloc | apply pw_below_drewN | apply below_drew1) | exact HB.out)) hb); clear HB; have HB := n0_; clear n0_; (try clear hb); (try clear hb2); (try clear hk); (try clear hi); have p430 : 0 ≤ (x7_1 : Int) := of_decide_eq_true (by first | (with_reducible assumption) | assumption); have q430 : x7_1 < (l1.length : Int) := of_decide_eq_true (by first | (with_reducible assumption) | assumption); obtain ⟨ad430, e430, hx430_0⟩ := Kd.at_string HR1.out x7_1 p430 q430; obtain rfl : ad428 = ad430 := (by injection e430); replace hx430_0 := (HB.out.cell (World.block_lt_of_cell? w _ hx430_0)).trans hx430_0; replace p430 := eq_true p430; replace q430 := eq_true q430))
              go_roundg k1
              case measure => have := HK1.out; omega
              case rel => exact ⟨(x6_1 ++ (rdOf ByteArray.empty l1 x7_1)), (wrap64 (x7_1 + 1)), (by first | rfl | (simp; done) | (simp [*]; done)), (by first | rfl | (simp; done) | (simp [*]; done)), H', ⟨by have := HK1.out; omega⟩, ⟨by repeat (first | (with_reducible first | exact HB.out | apply below_alloc | apply pw_below_drewN | apply below_drew1) | exact HB.out)⟩⟩
            · rw [if_neg c7] at H
              exact absurd H (by simp)
          · replace c6 := Bool.eq_false_iff.mpr c6
            subst c6
            have H1 : (some ((⟨#[]⟩ : ByteArray), 1)) = some (r1, r2) := by rw [if_neg (show ¬ (false = true) by decide)] at H; exact H
            clear H
            have H := H1
            clear H1
            simp only [Option.some.injEq, Prod.mk.injEq] at H
            obtain ⟨rfl, rfl⟩ := H
            have p428 : 0 ≤ (x7_1 : Int) := of_decide_eq_true (by first | (with_reducible assumption) | assumption)
            have q428 : x7_1 < (l1.length : Int) := of_decide_eq_true (by first | (with_reducible assumption) | assumption)
            obtain ⟨ad428, e428, hx428_0⟩ := Kd.at_string HR1.out x7_1 p428 q428
            cases e428
            replace hx428_0 := (HB.out.cell (World.block_lt_of_cell? w _ hx428_0)).trans hx428_0
            replace p428 := eq_true p428
            replace q428 := eq_true q428
            go_wp2_with (first | ((with_reducible refine gate_callee (f := 114) rfl ?_); refine goesL_ (some 19) rfl rfl Try.func114 (by kernel_rfl) rfl #[.string (rdOf ByteArray.empty l1 x7_1)] rfl (by (try simp only [List.map_toArray, List.map_cons, List.map_nil]); first | done | rfl | (simp only [List.length_drop, List.length_take]; rfl)) ?_; (with_reducible refine (gemotref1_Right.calls (rdOf ByteArray.empty l1 x7_1) false _ A5.out).mono ?_); rintro e w9 ⟨rfl, hb⟩; refine ⟨_, rfl, ?_⟩; have n0_ := Aside0.mk (below_step (by repeat (first | (with_reducible first | exact HB.out | apply below_alloc | apply pw_below_drewN | apply below_drew1) | exact HB.out)) hb); clear HB; have HB := n0_; clear n0_; (try clear hb); (try clear hb2); (try clear hk); (try clear hi)))
            go_ret2
            exact ⟨by first | rfl | (simp [errW_none, errW_some] <;> rfl) | (simp [*, errW_none, errW_some] <;> rfl), by repeat (first | (with_reducible first | exact HB.out | apply below_alloc | apply pw_below_drewN | apply below_drew1) | exact HB.out)⟩
        · rw [if_neg c4] at H
          exact absurd H (by simp)
      · rw [if_neg c3] at H
        have c3b0 : decide (x7_1 < (l1.length : Int)) = false := decide_eq_false c3
        clear c3
        replace H := Option.bind_eq_some_iff.mp H
        obtain ⟨⟨t431, t432⟩, A100, H⟩ := H
        replace H : (some (t431, t432)) = some (r1, r2) := H
        have A10 := Aside0.mk A100
        clear A100
        simp only [Option.some.injEq, Prod.mk.injEq] at H
        obtain ⟨rfl, rfl⟩ := H
        go_wp2_with (first | ((with_reducible refine gate_callee (f := 139) rfl ?_); refine goesL_ (some 28) rfl rfl Try.func139 (by kernel_rfl) rfl #[.string x6_1] rfl (by (try simp only [List.map_toArray, List.map_cons, List.map_nil]); first | done | rfl | (simp only [List.length_drop, List.length_take]; rfl)) ?_; (with_reducible refine (gemotref1_made.calls x6_1 t431 t432 _ A10.out).mono ?_); rintro e w11 ⟨rfl, hb⟩; refine ⟨_, rfl, ?_⟩; have n0_ := Aside0.mk (below_step (by repeat (first | (with_reducible first | exact HB.out | apply below_alloc | apply pw_below_drewN | apply below_drew1) | exact HB.out)) hb); clear HB; have HB := n0_; clear n0_; (try clear hb); (try clear hb2); (try clear hk); (try clear hi)))
        go_ret2
        exact ⟨by first | rfl | (simp [errW_none, errW_some] <;> rfl) | (simp [*, errW_none, errW_some] <;> rfl), by repeat (first | (with_reducible first | exact HB.out | apply below_alloc | apply pw_below_drewN | apply below_drew1) | exact HB.out)⟩

def gemotref1_Of.f (h : ByteArray) (l : List ByteArray) : Option (ByteArray × Int) := if h.size ≤ 100 ∧ l.length ≤ 3 ∧ ∀ x ∈ l, x.size < 9223372036854770000 then some (ofF h l) else none
theorem gemotref1_Of.loop (l : List ByteArray) (hl : l.length ≤ 3) (hx : ∀ x ∈ l, x.size < 9223372036854770000) : ∀ (d k i : Nat) (h : ByteArray), i + d = l.length → d < k → h.size ≤ 100 + i * 20000 →
    gemotref1_Of_p.l0 k l h i = some (ofF h (l.drop i))
  | d, 0, _, _, _, hk, _ => by omega
  | 0, k + 1, i, h, hi, _, _ => by
    simp only [gemotref1_Of_p.l0]
    rw [if_neg (by omega), List.drop_eq_nil_of_le (by omega)]
    unfold gemotref1_made.f
    rfl
  | d + 1, k + 1, i, h, hi, hk, hs => by
    simp only [gemotref1_Of_p.l0]
    have hil : i < l.length := by omega
    have e : rdOf ByteArray.empty l (i : Int) = l[i] := by simp [rdOf, List.getD_eq_getElem?_getD, hil]
    rw [if_pos (by omega), if_pos (by omega), e, List.drop_eq_getElem_cons hil]
    unfold gemotref1_Right.f
    rw [if_pos (hx _ (List.getElem_mem hil))]
    simp only [Option.bind_some]
    unfold ofF
    rw [List.all_cons]
    by_cases c : rightB l[i] = true
    · have := right_pos c
      rw [if_pos c, if_pos (by omega), show wrap64 ((i : Int) + 1) = ((i + 1 : Nat) : Int) by unfold wrap64; omega, gemotref1_Of.loop l hl hx d k (i + 1) _ (by omega) (by omega) (by rw [ByteArray.size_append]; omega), c]
      rfl
    · have c' : rightB l[i] = false := by simpa using c
      rw [if_neg c, c']
      rfl
theorem gemotref1_Of.eq (h : ByteArray) (l : List ByteArray) (r : ByteArray × Int) (e : gemotref1_Of.f h l = some r) : gemotref1_Of_p.f 5 h l = some r := by
  unfold gemotref1_Of.f at e
  split at e
  case isFalse => cases e
  rename_i hs
  rw [← e]
  unfold gemotref1_Of_p.f
  have := gemotref1_Of.loop l hs.2.1 hs.2.2 l.length 5 0 h (by omega) (by omega) (by omega)
  rwa [List.drop_zero] at this
theorem gemotref1_Of.calls (a0 : ByteArray) (A1 : Option Addr) (c1 : Nat) (l1 : List ByteArray) (r1 : ByteArray) (r2 : Int) (w : World) (hr1 : Kd.C Kd.string w A1 l1.length l1) (hc1 : l1.length ≤ c1) (h : gemotref1_Of.f a0 l1 = some (r1, r2)) :
    Calls Try.prog 93 #[.string a0, .slice A1 l1.length c1] w fun e w' => e = .returned (.tuple #[.string r1, .int .i64 r2]) ∧ Below w.heap.size w w' :=
  gemotref1_Of_p.calls 5 a0 A1 c1 l1 r1 r2 w hr1 hc1 (gemotref1_Of.eq a0 l1 _ h)

end Go.Proofs.Ytpfpmjdifnoeoaa.F
namespace Go.Proofs.Ytpfpmjdifnoeoaa.F
open Go.RowKit Go.Proofs.YtpfpmjdifnoeoaaW.PrintWords Go.Proofs.YtpfpmjdifnoeoaaW.PrintLast Go.Proofs.YtpfpmjdifnoeoaaW.PrintMore
attribute [local go_sem] max2_int min2_int max_two min_two max_three min_three max_four min_four
set_option linter.unusedVariables false
set_option linter.unusedSimpArgs false

/-! ### gemotlaw1_TermMakes: function 16 -/
mutual
def gemotlaw1_TermMakes.j0 : Nat → ByteArray → ByteArray → ByteArray → Bool → Bool → Option (Bool)
  | 0, _, _, _, _, _ => none
  | k + 1, x0, x1, x2, x7, x36 => if x36 = true then (some x7) else ((term_Power.f x0 x1).bind fun bt892 => ((gemotref1_Power.f x0 x1).bind fun bt894 => ((term_Key.f x0).bind fun bt896 => ((gemotref1_Key.f x0).bind fun bt898 => (if bt892.1.toList = bt894.1.toList then (if bt892.2 = bt894.2 then (if bt896.1.toList = bt898.1.toList then (gemotlaw1_TermMakes.j1 k x0 x1 x2 x0 x1 x2 (bt896.2 != bt898.2)) else (gemotlaw1_TermMakes.j1 k x0 x1 x2 x0 x1 x2 true)) else (gemotlaw1_TermMakes.j1 k x0 x1 x2 x0 x1 x2 true)) else (gemotlaw1_TermMakes.j1 k x0 x1 x2 x0 x1 x2 true))))))
def gemotlaw1_TermMakes.j1 : Nat → ByteArray → ByteArray → ByteArray → ByteArray → ByteArray → ByteArray → Bool → Option (Bool)
  | 0, _, _, _, _, _, _, _ => none
  | k + 1, x0, x1, x2, x8, x9, x10, x80 => if x80 = true then (none) else ((term_Pair.f x8 x9).bind fun bt900 => ((gemotref1_Of.f (⟨#[112]⟩ : ByteArray) (([x0, x1] : List ByteArray))).bind fun bt905 => ((term_Hash.f x8).bind fun bt907 => ((gemotref1_Of.f (⟨#[104]⟩ : ByteArray) (([x0] : List ByteArray))).bind fun bt912 => (if bt900.1.toList = bt905.1.toList then (if bt900.2 = bt905.2 then (if bt907.1.toList = bt912.1.toList then (gemotlaw1_TermMakes.j2 k x0 x1 x2 x8 x9 x10 (bt907.2 != bt912.2)) else (gemotlaw1_TermMakes.j2 k x0 x1 x2 x8 x9 x10 true)) else (gemotlaw1_TermMakes.j2 k x0 x1 x2 x8 x9 x10 true)) else (gemotlaw1_TermMakes.j2 k x0 x1 x2 x8 x9 x10 true))))))
def gemotlaw1_TermMakes.j2 : Nat → ByteArray → ByteArray → ByteArray → ByteArray → ByteArray → ByteArray → Bool → Option (Bool)
  | 0, _, _, _, _, _, _, _ => none
  | k + 1, x0, x1, x2, x8, x9, x10, x122 => if x122 = true then (none) else ((term_Seal.f x8 x9 x10).bind fun bt914 => ((gemotref1_Of.f (⟨#[115]⟩ : ByteArray) (([x0, x1, x2] : List ByteArray))).bind fun bt919 => ((term_Sign.f x8 x9).bind fun bt921 => ((gemotref1_Of.f (⟨#[120]⟩ : ByteArray) (([x0, x1] : List ByteArray))).bind fun bt926 => (if bt914.1.toList = bt919.1.toList then (if bt914.2 = bt919.2 then (if bt921.1.toList = bt926.1.toList then (some (bt921.2 == bt926.2)) else (none)) else (none)) else (none))))))
end
def gemotlaw1_TermMakes.f (k : Nat) (a0 : ByteArray) (a1 : ByteArray) (a2 : ByteArray) : Option (Bool) := (gemotlaw1_shown.f).bind fun t891 => (if t891 = true then (if (a0.size : Int) > 3000 then (gemotlaw1_TermMakes.j0 k a0 a1 a2 t891 true) else (if (a1.size : Int) > 3000 then (gemotlaw1_TermMakes.j0 k a0 a1 a2 t891 true) else (gemotlaw1_TermMakes.j0 k a0 a1 a2 t891 (decide ((a2.size : Int) > 3000))))) else (gemotlaw1_TermMakes.j0 k a0 a1 a2 t891 true))
theorem gemotlaw1_TermMakes.mono_l : ∀ k, (∀ y0 y1 y2 y3 y4, LeO (gemotlaw1_TermMakes.j0 k y0 y1 y2 y3 y4) (gemotlaw1_TermMakes.j0 (k + 1) y0 y1 y2 y3 y4)) ∧ (∀ y0 y1 y2 y3 y4 y5 y6, LeO (gemotlaw1_TermMakes.j1 k y0 y1 y2 y3 y4 y5 y6) (gemotlaw1_TermMakes.j1 (k + 1) y0 y1 y2 y3 y4 y5 y6)) ∧ (∀ y0 y1 y2 y3 y4 y5 y6, LeO (gemotlaw1_TermMakes.j2 k y0 y1 y2 y3 y4 y5 y6) (gemotlaw1_TermMakes.j2 (k + 1) y0 y1 y2 y3 y4 y5 y6))
  | 0 => ⟨fun _ _ _ _ _ r h => by simp [gemotlaw1_TermMakes.j0] at h, fun _ _ _ _ _ _ _ r h => by simp [gemotlaw1_TermMakes.j1] at h, fun _ _ _ _ _ _ _ r h => by simp [gemotlaw1_TermMakes.j2] at h⟩
  | k + 1 => by
    obtain ⟨ih0, ih1, ih2⟩ := gemotlaw1_TermMakes.mono_l k
    refine ⟨?_, ?_, ?_⟩
    · intro y0 y1 y2 y3 y4
      unfold gemotlaw1_TermMakes.j0
      repeat' first
      | (with_reducible exact ih0 _ _ _ _ _)
      | (with_reducible exact ih1 _ _ _ _ _ _ _)
      | (with_reducible exact ih2 _ _ _ _ _ _ _)
      | (with_reducible exact LeO.refl _)
      | (with_reducible exact LeO.none _)
      | (with_reducible refine LeO.ite ?_ ?_)
      | (with_reducible refine LeO.bind ?_ (fun _ => ?_))
      | exact ih0 _ _ _ _ _
      | exact ih1 _ _ _ _ _ _ _
      | exact ih2 _ _ _ _ _ _ _
      | exact LeO.none _
      | refine LeO.ite ?_ ?_
      | refine LeO.bind ?_ (fun _ => ?_)
    · intro y0 y1 y2 y3 y4 y5 y6
      unfold gemotlaw1_TermMakes.j1
      repeat' first
      | (with_reducible exact ih0 _ _ _ _ _)
      | (with_reducible exact ih1 _ _ _ _ _ _ _)
      | (with_reducible exact ih2 _ _ _ _ _ _ _)
      | (with_reducible exact LeO.refl _)
      | (with_reducible exact LeO.none _)
      | (with_reducible refine LeO.ite ?_ ?_)
      | (with_reducible refine LeO.bind ?_ (fun _ => ?_))
      | exact ih0 _ _ _ _ _
      | exact ih1 _ _ _ _ _ _ _
      | exact ih2 _ _ _ _ _ _ _
      | exact LeO.none _
      | refine LeO.ite ?_ ?_
      | refine LeO.bind ?_ (fun _ => ?_)
    · intro y0 y1 y2 y3 y4 y5 y6
      unfold gemotlaw1_TermMakes.j2
      repeat' first
      | (with_reducible exact ih0 _ _ _ _ _)
      | (with_reducible exact ih1 _ _ _ _ _ _ _)
      | (with_reducible exact ih2 _ _ _ _ _ _ _)
      | (with_reducible exact LeO.refl _)
      | (with_reducible exact LeO.none _)
      | (with_reducible refine LeO.ite ?_ ?_)
      | (with_reducible refine LeO.bind ?_ (fun _ => ?_))
      | exact ih0 _ _ _ _ _
      | exact ih1 _ _ _ _ _ _ _
      | exact ih2 _ _ _ _ _ _ _
      | exact LeO.none _
      | refine LeO.ite ?_ ?_
      | refine LeO.bind ?_ (fun _ => ?_)
theorem gemotlaw1_TermMakes.mono : ∀ a0 a1 a2 k, LeO (gemotlaw1_TermMakes.f k a0 a1 a2) (gemotlaw1_TermMakes.f (k + 1) a0 a1 a2) := by
  intro a0 a1 a2 k
  obtain ⟨ih0, ih1, ih2⟩ := gemotlaw1_TermMakes.mono_l k
  unfold gemotlaw1_TermMakes.f
  repeat' first
      | (with_reducible exact ih0 _ _ _ _ _)
      | (with_reducible exact ih1 _ _ _ _ _ _ _)
      | (with_reducible exact ih2 _ _ _ _ _ _ _)
      | (with_reducible exact LeO.refl _)
      | (with_reducible exact LeO.none _)
      | (with_reducible refine LeO.ite ?_ ?_)
      | (with_reducible refine LeO.bind ?_ (fun _ => ?_))
      | exact ih0 _ _ _ _ _
      | exact ih1 _ _ _ _ _ _ _
      | exact ih2 _ _ _ _ _ _ _
      | exact LeO.none _
      | refine LeO.ite ?_ ?_
      | refine LeO.bind ?_ (fun _ => ?_)
set_option maxHeartbeats 8000000 in
set_option maxRecDepth 100000 in
theorem gemotlaw1_TermMakes.calls (k : Nat) (a0 : ByteArray) (a1 : ByteArray) (a2 : ByteArray) (r : Bool) (w : World) (h : gemotlaw1_TermMakes.f k a0 a1 a2 = some r) :
    Calls Try.prog 16 #[.string a0, .string a1, .string a2] w fun e w' => e = .returned (.bool r) ∧ Below w.heap.size w w' := by
  have HB := Aside0.mk (Below.refl w.heap.size w)
  have H : ((gemotlaw1_shown.f).bind fun t891 => (if t891 = true then (if (a0.size : Int) > 3000 then (gemotlaw1_TermMakes.j0 k a0 a1 a2 t891 true) else (if (a1.size : Int) > 3000 then (gemotlaw1_TermMakes.j0 k a0 a1 a2 t891 true) else (gemotlaw1_TermMakes.j0 k a0 a1 a2 t891 (decide ((a2.size : Int) > 3000))))) else (gemotlaw1_TermMakes.j0 k a0 a1 a2 t891 true))) = some r := h
  clear h
  replace H := Option.bind_eq_some_iff.mp H
  obtain ⟨t891, A40, H⟩ := H
  replace H : (if t891 = true then (if (a0.size : Int) > 3000 then (gemotlaw1_TermMakes.j0 k a0 a1 a2 t891 true) else (if (a1.size : Int) > 3000 then (gemotlaw1_TermMakes.j0 k a0 a1 a2 t891 true) else (gemotlaw1_TermMakes.j0 k a0 a1 a2 t891 (decide ((a2.size : Int) > 3000))))) else (gemotlaw1_TermMakes.j0 k a0 a1 a2 t891 true)) = some r := H
  have A4 := Aside0.mk A40
  clear A40
  have HC5 := Aside0.mk H
  clear H
  go_enter Try.func16, Try.ntmps16
  go_upto_region 2 with (first | ((with_reducible refine gate_callee (f := 78) rfl ?_); refine goesL_ (some 19) rfl rfl Try.func78 (by kernel_rfl) rfl #[] rfl (by (try simp only [List.map_toArray, List.map_cons, List.map_nil]); first | done | rfl | (simp only [List.length_drop, List.length_take]; rfl)) ?_; (with_reducible refine (gemotlaw1_shown.calls  t891 _ A4.out).mono ?_); rintro e w6 ⟨rfl, hb⟩; refine ⟨_, rfl, ?_⟩; have n0_ := Aside0.mk (below_step (by repeat (first | (with_reducible first | exact HB.out | apply below_alloc | apply pw_below_drewN | apply below_drew1) | exact HB.out)) hb); clear HB; have HB := n0_; clear n0_; (try clear hb); (try clear hb2); (try clear hk); (try clear hi)))
  (try simp only [Act.put, List.setIfInBounds_toArray, List.set_cons_zero, List.set_cons_succ])
  go_cut [36] (fun v36 wc => ∃ (kq : Nat) (x36_4 : Bool), v36 = .bool x36_4 ∧ Aside0 (gemotlaw1_TermMakes.j0 kq a0 a1 a2 t891 x36_4 = some r) ∧ Aside0 (kq ≤ k) ∧ Aside0 (Below w.heap.size w wc))
  case first =>
    have H := HC5.out
    clear HC5
    by_cases c7 : t891 = true
    · subst c7
      have H1 : (if (a0.size : Int) > 3000 then (gemotlaw1_TermMakes.j0 k a0 a1 a2 true true) else (if (a1.size : Int) > 3000 then (gemotlaw1_TermMakes.j0 k a0 a1 a2 true true) else (gemotlaw1_TermMakes.j0 k a0 a1 a2 true (decide ((a2.size : Int) > 3000))))) = some r := by rw [if_pos rfl] at H; exact H
      clear H
      have H := H1
      clear H1
      by_cases c8 : (a0.size : Int) > 3000
      · rw [if_pos c8] at H
        have c8b0 : decide (3000 < (a0.size : Int)) = true := decide_eq_true c8
        have c8b1 : decide (3000 < a0.size) = true := decide_eq_true (by omega)
        clear c8
        (first | rw [c8b0] | (simp only [i64_w, i32_w]; rw [c8b0]) | skip)
        have H' := Aside0.mk H
        clear H
        go_wp2
        go_meet
        case rel => exact ⟨_, (true), (by first | rfl | (simp; done) | (simp [*]; done)), H', ⟨by first | omega | exact Nat.le_refl _⟩, ⟨by repeat (first | (with_reducible first | exact HB.out | apply below_alloc | apply pw_below_drewN | apply below_drew1) | exact HB.out)⟩⟩
      · rw [if_neg c8] at H
        have c8b0 : decide (3000 < (a0.size : Int)) = false := decide_eq_false c8
        have c8b1 : decide (3000 < a0.size) = false := decide_eq_false (by omega)
        clear c8
        (first | rw [c8b0] | (simp only [i64_w, i32_w]; rw [c8b0]) | skip)
        by_cases c9 : (a1.size : Int) > 3000
        · rw [if_pos c9] at H
          have c9b0 : decide (3000 < (a1.size : Int)) = true := decide_eq_true c9
          have c9b1 : decide (3000 < a1.size) = true := decide_eq_true (by omega)
          clear c9
          have H' := Aside0.mk H
          clear H
          go_wp2
          go_meet
          case rel => exact ⟨_, (true), (by first | rfl | (simp; done) | (simp [*]; done)), H', ⟨by first | omega | exact Nat.le_refl _⟩, ⟨by repeat (first | (with_reducible first | exact HB.out | apply below_alloc | apply pw_below_drewN | apply below_drew1) | exact HB.out)⟩⟩
        · rw [if_neg c9] at H
          have c9b0 : decide (3000 < (a1.size : Int)) = false := decide_eq_false c9
          have c9b1 : decide (3000 < a1.size) = false := decide_eq_false (by omega)
          clear c9
          have H' := Aside0.mk H
          clear H
          go_wp2
          go_meet
          case rel => exact ⟨_, (decide ((a2.size : Int) > 3000)), (by first | rfl | (simp; done) | (simp [*]; done)), H', ⟨by first | omega | exact Nat.le_refl _⟩, ⟨by repeat (first | (with_reducible first | exact HB.out | apply below_alloc | apply pw_below_drewN | apply below_drew1) | exact HB.out)⟩⟩
    · replace c7 := Bool.eq_false_iff.mpr c7
      subst c7
      have H1 : (gemotlaw1_TermMakes.j0 k a0 a1 a2 false true) = some r := by rw [if_neg (show ¬ (false = true) by decide)] at H; exact H
      clear H
      have H := H1
      clear H1
      have H' := Aside0.mk H
      clear H
      go_wp2
      go_meet
      case rel => exact ⟨_, (true), (by first | rfl | (simp; done) | (simp [*]; done)), H', ⟨by first | omega | exact Nat.le_refl _⟩, ⟨by repeat (first | (with_reducible first | exact HB.out | apply below_alloc | apply pw_below_drewN | apply below_drew1) | exact HB.out)⟩⟩
  case rest =>
    clear HC5
    try clear c1
    try clear p2
    try clear c7
    try clear c8
    try clear c8b0
    try clear c8b1
    try clear c9
    try clear c9b0
    try clear c9b1
    obtain ⟨kq, x36_4, rfl, HA, HJ4, HB⟩ := hcut
    cases kq with
    | zero => exact absurd HA.out (by simp [gemotlaw1_TermMakes.j0])
    | succ kj4 =>
      have H := HA.out
      clear HA
      simp only [gemotlaw1_TermMakes.j0] at H
      by_cases c10 : x36_4 = true
      · subst c10
        have H1 : (some t891) = some r := by rw [if_pos rfl] at H; exact H
        clear H
        have H := H1
        clear H1
        obtain rfl := Option.some.inj H
        go_wp2
        go_ret
        exact ⟨by first | rfl | (simp [errW_none, errW_some] <;> rfl) | (simp [*, errW_none, errW_some] <;> rfl), by repeat (first | (with_reducible first | exact HB.out | apply below_alloc | apply pw_below_drewN | apply below_drew1) | exact HB.out)⟩
      · replace c10 := Bool.eq_false_iff.mpr c10
        subst c10
        have H1 : ((term_Power.f a0 a1).bind fun bt892 => ((gemotref1_Power.f a0 a1).bind fun bt894 => ((term_Key.f a0).bind fun bt896 => ((gemotref1_Key.f a0).bind fun bt898 => (if bt892.1.toList = bt894.1.toList then (if bt892.2 = bt894.2 then (if bt896.1.toList = bt898.1.toList then (gemotlaw1_TermMakes.j1 kj4 a0 a1 a2 a0 a1 a2 (bt896.2 != bt898.2)) else (gemotlaw1_TermMakes.j1 kj4 a0 a1 a2 a0 a1 a2 true)) else (gemotlaw1_TermMakes.j1 kj4 a0 a1 a2 a0 a1 a2 true)) else (gemotlaw1_TermMakes.j1 kj4 a0 a1 a2 a0 a1 a2 true)))))) = some r := by rw [if_neg (show ¬ (false = true) by decide)] at H; exact H
        clear H
        have H := H1
        clear H1
        replace H := Option.bind_eq_some_iff.mp H
        obtain ⟨⟨t892, t893⟩, A110, H⟩ := H
        replace H : ((gemotref1_Power.f a0 a1).bind fun bt894 => ((term_Key.f a0).bind fun bt896 => ((gemotref1_Key.f a0).bind fun bt898 => (if t892.toList = bt894.1.toList then (if t893 = bt894.2 then (if bt896.1.toList = bt898.1.toList then (gemotlaw1_TermMakes.j1 kj4 a0 a1 a2 a0 a1 a2 (bt896.2 != bt898.2)) else (gemotlaw1_TermMakes.j1 kj4 a0 a1 a2 a0 a1 a2 true)) else (gemotlaw1_TermMakes.j1 kj4 a0 a1 a2 a0 a1 a2 true)) else (gemotlaw1_TermMakes.j1 kj4 a0 a1 a2 a0 a1 a2 true))))) = some r := H
        have A11 := Aside0.mk A110
        clear A110
        replace H := Option.bind_eq_some_iff.mp H
        obtain ⟨⟨t894, t895⟩, A120, H⟩ := H
        replace H : ((term_Key.f a0).bind fun bt896 => ((gemotref1_Key.f a0).bind fun bt898 => (if t892.toList = t894.toList then (if t893 = t895 then (if bt896.1.toList = bt898.1.toList then (gemotlaw1_TermMakes.j1 kj4 a0 a1 a2 a0 a1 a2 (bt896.2 != bt898.2)) else (gemotlaw1_TermMakes.j1 kj4 a0 a1 a2 a0 a1 a2 true)) else (gemotlaw1_TermMakes.j1 kj4 a0 a1 a2 a0 a1 a2 true)) else (gemotlaw1_TermMakes.j1 kj4 a0 a1 a2 a0 a1 a2 true)))) = some r := H
        have A12 := Aside0.mk A120
        clear A120
        replace H := Option.bind_eq_some_iff.mp H
        obtain ⟨⟨t896, t897⟩, A130, H⟩ := H
        replace H : ((gemotref1_Key.f a0).bind fun bt898 => (if t892.toList = t894.toList then (if t893 = t895 then (if t896.toList = bt898.1.toList then (gemotlaw1_TermMakes.j1 kj4 a0 a1 a2 a0 a1 a2 (t897 != bt898.2)) else (gemotlaw1_TermMakes.j1 kj4 a0 a1 a2 a0 a1 a2 true)) else (gemotlaw1_TermMakes.j1 kj4 a0 a1 a2 a0 a1 a2 true)) else (gemotlaw1_TermMakes.j1 kj4 a0 a1 a2 a0 a1 a2 true))) = some r := H
        have A13 := Aside0.mk A130
        clear A130
        replace H := Option.bind_eq_some_iff.mp H
        obtain ⟨⟨t898, t899⟩, A140, H⟩ := H
        replace H : (if t892.toList = t894.toList then (if t893 = t895 then (if t896.toList = t898.toList then (gemotlaw1_TermMakes.j1 kj4 a0 a1 a2 a0 a1 a2 (t897 != t899)) else (gemotlaw1_TermMakes.j1 kj4 a0 a1 a2 a0 a1 a2 true)) else (gemotlaw1_TermMakes.j1 kj4 a0 a1 a2 a0 a1 a2 true)) else (gemotlaw1_TermMakes.j1 kj4 a0 a1 a2 a0 a1 a2 true)) = some r := H
        have A14 := Aside0.mk A140
        clear A140
        have HC15 := Aside0.mk H
        clear H
        go_upto_region 11 with (first | ((with_reducible refine gate_callee (f := 88) rfl ?_); refine goesL_ (some 44) rfl rfl Try.func88 (by kernel_rfl) rfl #[.string a0, .string a1] rfl (by (try simp only [List.map_toArray, List.map_cons, List.map_nil]); first | done | rfl | (simp only [List.length_drop, List.length_take]; rfl)) ?_; (with_reducible refine (term_Power.calls a0 a1 t892 t893 _ A11.out).mono ?_); rintro e w16 ⟨rfl, hb⟩; refine ⟨_, rfl, ?_⟩; have n0_ := Aside0.mk (below_step (by repeat (first | (with_reducible first | exact HB.out | apply below_alloc | apply pw_below_drewN | apply below_drew1) | exact HB.out)) hb); clear HB; have HB := n0_; clear n0_; (try clear hb); (try clear hb2); (try clear hk); (try clear hi)) | ((with_reducible refine gate_callee (f := 89) rfl ?_); refine goesL_ (some 50) rfl rfl Try.func89 (by kernel_rfl) rfl #[.string a0, .string a1] rfl (by (try simp only [List.map_toArray, List.map_cons, List.map_nil]); first | done | rfl | (simp only [List.length_drop, List.length_take]; rfl)) ?_; (with_reducible refine (gemotref1_Power.calls a0 a1 t894 t895 _ A12.out).mono ?_); rintro e w17 ⟨rfl, hb⟩; refine ⟨_, rfl, ?_⟩; have n0_ := Aside0.mk (below_step (by repeat (first | (with_reducible first | exact HB.out | apply below_alloc | apply pw_below_drewN | apply below_drew1) | exact HB.out)) hb); clear HB; have HB := n0_; clear n0_; (try clear hb); (try clear hb2); (try clear hk); (try clear hi)) | ((with_reducible refine gate_callee (f := 90) rfl ?_); refine goesL_ (some 55) rfl rfl Try.func90 (by kernel_rfl) rfl #[.string a0] rfl (by (try simp only [List.map_toArray, List.map_cons, List.map_nil]); first | done | rfl | (simp only [List.length_drop, List.length_take]; rfl)) ?_; (with_reducible refine (term_Key.calls a0 t896 t897 _ A13.out).mono ?_); rintro e w18 ⟨rfl, hb⟩; refine ⟨_, rfl, ?_⟩; have n0_ := Aside0.mk (below_step (by repeat (first | (with_reducible first | exact HB.out | apply below_alloc | apply pw_below_drewN | apply below_drew1) | exact HB.out)) hb); clear HB; have HB := n0_; clear n0_; (try clear hb); (try clear hb2); (try clear hk); (try clear hi)) | ((with_reducible refine gate_callee (f := 91) rfl ?_); refine goesL_ (some 60) rfl rfl Try.func91 (by kernel_rfl) rfl #[.string a0] rfl (by (try simp only [List.map_toArray, List.map_cons, List.map_nil]); first | done | rfl | (simp only [List.length_drop, List.length_take]; rfl)) ?_; (with_reducible refine (gemotref1_Key.calls a0 t898 t899 _ A14.out).mono ?_); rintro e w19 ⟨rfl, hb⟩; refine ⟨_, rfl, ?_⟩; have n0_ := Aside0.mk (below_step (by repeat (first | (with_reducible first | exact HB.out | apply below_alloc | apply pw_below_drewN | apply below_drew1) | exact HB.out)) hb); clear HB; have HB := n0_; clear n0_; (try clear hb); (try clear hb2); (try clear hk); (try clear hi)))
        (try simp only [Act.put, List.setIfInBounds_toArray, List.set_cons_zero, List.set_cons_succ])
        go_cut [80] (fun v80 wc => ∃ (kq : Nat) (x80_14 : Bool), v80 = .bool x80_14 ∧ Aside0 (gemotlaw1_TermMakes.j1 kq a0 a1 a2 a0 a1 a2 x80_14 = some r) ∧ Aside0 (kq ≤ kj4) ∧ Aside0 (Below w.heap.size w wc))
        case first =>
          have H := HC15.out
          clear HC15
          by_cases c20 : t892.toList = t894.toList
          · rw [if_pos c20] at H
            have c20b0 : (t892.toList == t894.toList) = true := beq_iff_eq.mpr c20
            have c20b1 : (t892.toList != t894.toList) = false := bne_eq_false_iff_eq.mpr c20
            clear c20
            (first | rw [c20b0] | (simp only [i64_w, i32_w]; rw [c20b0]) | skip)
            by_cases c21 : t893 = t895
            · rw [if_pos c21] at H
              have c21b0 : (t893 == t895) = true := beq_iff_eq.mpr c21
              have c21b1 : (t893 != t895) = false := bne_eq_false_iff_eq.mpr c21
              clear c21
              by_cases c22 : t896.toList = t898.toList
              · rw [if_pos c22] at H
                have c22b0 : (t896.toList == t898.toList) = true := beq_iff_eq.mpr c22
                have c22b1 : (t896.toList != t898.toList) = false := bne_eq_false_iff_eq.mpr c22
                clear c22
                have H' := Aside0.mk H
                clear H
                go_wp2
                go_meet
                case rel => exact ⟨_, ((t897 != t899)), (by first | rfl | (simp; done) | (simp [*]; done)), H', ⟨by have := HJ4.out; first | omega | exact Nat.le_refl _⟩, ⟨by repeat (first | (with_reducible first | exact HB.out | apply below_alloc | apply pw_below_drewN | apply below_drew1) | exact HB.out)⟩⟩
              · rw [if_neg c22] at H
                have c22b0 : (t896.toList == t898.toList) = false := beq_eq_false_iff_ne.mpr c22
                have c22b1 : (t896.toList != t898.toList) = true := bne_iff_ne.mpr c22
                have H' := Aside0.mk H
                clear H
                go_wp2
                go_meet
                case rel => exact ⟨_, (true), (by first | rfl | (simp; done) | (simp [*]; done)), H', ⟨by have := HJ4.out; first | omega | exact Nat.le_refl _⟩, ⟨by repeat (first | (with_reducible first | exact HB.out | apply below_alloc | apply pw_below_drewN | apply below_drew1) | exact HB.out)⟩⟩
            · rw [if_neg c21] at H
              have c21b0 : (t893 == t895) = false := beq_eq_false_iff_ne.mpr c21
              have c21b1 : (t893 != t895) = true := bne_iff_ne.mpr c21
              have H' := Aside0.mk H
              clear H
              go_wp2
              go_meet
              case rel => exact ⟨_, (true), (by first | rfl | (simp; done) | (simp [*]; done)), H', ⟨by have := HJ4.out; first | omega | exact Nat.le_refl _⟩, ⟨by repeat (first | (with_reducible first | exact HB.out | apply below_alloc | apply pw_below_drewN | apply below_drew1) | exact HB.out)⟩⟩
          · rw [if_neg c20] at H
            have c20b0 : (t892.toList == t894.toList) = false := beq_eq_false_iff_ne.mpr c20
            have c20b1 : (t892.toList != t894.toList) = true := bne_iff_ne.mpr c20
            (first | rw [c20b0] | (simp only [i64_w, i32_w]; rw [c20b0]) | skip)
            have H' := Aside0.mk H
            clear H
            go_wp2
            go_meet
            case rel => exact ⟨_, (true), (by first | rfl | (simp; done) | (simp [*]; done)), H', ⟨by have := HJ4.out; first | omega | exact Nat.le_refl _⟩, ⟨by repeat (first | (with_reducible first | exact HB.out | apply below_alloc | apply pw_below_drewN | apply below_drew1) | exact HB.out)⟩⟩
        case rest =>
          clear HC15
          try clear c1
          try clear c2
          try clear p2
          try clear c7
          try clear c8
          try clear c8b0
          try clear c8b1
          try clear c9
          try clear c9b0
          try clear c9b1
          try clear c10
          try clear c16
          try clear c20
          try clear c20b0
          try clear c20b1
          try clear c21
          try clear c21b0
          try clear c21b1
          try clear c22
          try clear c22b0
          try clear c22b1
          try clear p2
          obtain ⟨kq, x80_14, rfl, HA, HJ14, HB⟩ := hcut
          cases kq with
          | zero => exact absurd HA.out (by simp [gemotlaw1_TermMakes.j1])
          | succ kj14 =>
            have H := HA.out
            clear HA
            simp only [gemotlaw1_TermMakes.j1] at H
            by_cases c23 : x80_14 = true
            · subst c23
              have H1 : (none) = some r := by rw [if_pos rfl] at H; exact H
              exact absurd H1 (by simp)
            · replace c23 := Bool.eq_false_iff.mpr c23
              subst c23
              have H1 : ((term_Pair.f a0 a1).bind fun bt900 => ((gemotref1_Of.f (⟨#[112]⟩ : ByteArray) (([a0, a1] : List ByteArray))).bind fun bt905 => ((term_Hash.f a0).bind fun bt907 => ((gemotref1_Of.f (⟨#[104]⟩ : ByteArray) (([a0] : List ByteArray))).bind fun bt912 => (if bt900.1.toList = bt905.1.toList then (if bt900.2 = bt905.2 then (if bt907.1.toList = bt912.1.toList then (gemotlaw1_TermMakes.j2 kj14 a0 a1 a2 a0 a1 a2 (bt907.2 != bt912.2)) else (gemotlaw1_TermMakes.j2 kj14 a0 a1 a2 a0 a1 a2 true)) else (gemotlaw1_TermMakes.j2 kj14 a0 a1 a2 a0 a1 a2 true)) else (gemotlaw1_TermMakes.j2 kj14 a0 a1 a2 a0 a1 a2 true)))))) = some r := by rw [if_neg (show ¬ (false = true) by decide)] at H; exact H
              clear H
              have H := H1
              clear H1
              replace H := Option.bind_eq_some_iff.mp H
              obtain ⟨⟨t900, t901⟩, A240, H⟩ := H
              replace H : ((gemotref1_Of.f (⟨#[112]⟩ : ByteArray) (([a0, a1] : List ByteArray))).bind fun bt905 => ((term_Hash.f a0).bind fun bt907 => ((gemotref1_Of.f (⟨#[104]⟩ : ByteArray) (([a0] : List ByteArray))).bind fun bt912 => (if t900.toList = bt905.1.toList then (if t901 = bt905.2 then (if bt907.1.toList = bt912.1.toList then (gemotlaw1_TermMakes.j2 kj14 a0 a1 a2 a0 a1 a2 (bt907.2 != bt912.2)) else (gemotlaw1_TermMakes.j2 kj14 a0 a1 a2 a0 a1 a2 true)) else (gemotlaw1_TermMakes.j2 kj14 a0 a1 a2 a0 a1 a2 true)) else (gemotlaw1_TermMakes.j2 kj14 a0 a1 a2 a0 a1 a2 true))))) = some r := H
              have A24 := Aside0.mk A240
              clear A240
              obtain ⟨y902, hy902⟩ : ∃ y_ : List ByteArray, y_ = (([a0, a1] : List ByteArray)) := ⟨_, rfl⟩
              replace H : ((gemotref1_Of.f (⟨#[112]⟩ : ByteArray) y902).bind fun bt905 => ((term_Hash.f a0).bind fun bt907 => ((gemotref1_Of.f (⟨#[104]⟩ : ByteArray) (([a0] : List ByteArray))).bind fun bt912 => (if t900.toList = bt905.1.toList then (if t901 = bt905.2 then (if bt907.1.toList = bt912.1.toList then (gemotlaw1_TermMakes.j2 kj14 a0 a1 a2 a0 a1 a2 (bt907.2 != bt912.2)) else (gemotlaw1_TermMakes.j2 kj14 a0 a1 a2 a0 a1 a2 true)) else (gemotlaw1_TermMakes.j2 kj14 a0 a1 a2 a0 a1 a2 true)) else (gemotlaw1_TermMakes.j2 kj14 a0 a1 a2 a0 a1 a2 true))))) = some r := by first | (rw [hy902]; with_reducible exact H) | (have H2_ := (Option.bind_some _ _).symm.trans H; rw [hy902]; with_reducible exact H2_) | (have H2_ := (Option.bind_some _ _).symm.trans H; with_reducible exact H2_) | with_reducible exact H | (rw [hy902]; exact H) | exact H
              have Ny902 := Aside0.mk hy902
              clear hy902
              replace H := Option.bind_eq_some_iff.mp H
              obtain ⟨⟨t905, t906⟩, A250, H⟩ := H
              replace H : ((term_Hash.f a0).bind fun bt907 => ((gemotref1_Of.f (⟨#[104]⟩ : ByteArray) (([a0] : List ByteArray))).bind fun bt912 => (if t900.toList = t905.toList then (if t901 = t906 then (if bt907.1.toList = bt912.1.toList then (gemotlaw1_TermMakes.j2 kj14 a0 a1 a2 a0 a1 a2 (bt907.2 != bt912.2)) else (gemotlaw1_TermMakes.j2 kj14 a0 a1 a2 a0 a1 a2 true)) else (gemotlaw1_TermMakes.j2 kj14 a0 a1 a2 a0 a1 a2 true)) else (gemotlaw1_TermMakes.j2 kj14 a0 a1 a2 a0 a1 a2 true)))) = some r := H
              have A25 := Aside0.mk A250
              clear A250
              replace H := Option.bind_eq_some_iff.mp H
              obtain ⟨⟨t907, t908⟩, A260, H⟩ := H
              replace H : ((gemotref1_Of.f (⟨#[104]⟩ : ByteArray) (([a0] : List ByteArray))).bind fun bt912 => (if t900.toList = t905.toList then (if t901 = t906 then (if t907.toList = bt912.1.toList then (gemotlaw1_TermMakes.j2 kj14 a0 a1 a2 a0 a1 a2 (t908 != bt912.2)) else (gemotlaw1_TermMakes.j2 kj14 a0 a1 a2 a0 a1 a2 true)) else (gemotlaw1_TermMakes.j2 kj14 a0 a1 a2 a0 a1 a2 true)) else (gemotlaw1_TermMakes.j2 kj14 a0 a1 a2 a0 a1 a2 true))) = some r := H
              have A26 := Aside0.mk A260
              clear A260
              obtain ⟨y909, hy909⟩ : ∃ y_ : List ByteArray, y_ = (([a0] : List ByteArray)) := ⟨_, rfl⟩
              replace H : ((gemotref1_Of.f (⟨#[104]⟩ : ByteArray) y909).bind fun bt912 => (if t900.toList = t905.toList then (if t901 = t906 then (if t907.toList = bt912.1.toList then (gemotlaw1_TermMakes.j2 kj14 a0 a1 a2 a0 a1 a2 (t908 != bt912.2)) else (gemotlaw1_TermMakes.j2 kj14 a0 a1 a2 a0 a1 a2 true)) else (gemotlaw1_TermMakes.j2 kj14 a0 a1 a2 a0 a1 a2 true)) else (gemotlaw1_TermMakes.j2 kj14 a0 a1 a2 a0 a1 a2 true))) = some r := by first | (rw [hy909]; with_reducible exact H) | (have H2_ := (Option.bind_some _ _).symm.trans H; rw [hy909]; with_reducible exact H2_) | (have H2_ := (Option.bind_some _ _).symm.trans H; with_reducible exact H2_) | with_reducible exact H | (rw [hy909]; exact H) | exact H
              have Ny909 := Aside0.mk hy909
              clear hy909
              replace H := Option.bind_eq_some_iff.mp H
              obtain ⟨⟨t912, t913⟩, A270, H⟩ := H
              replace H : (if t900.toList = t905.toList then (if t901 = t906 then (if t907.toList = t912.toList then (gemotlaw1_TermMakes.j2 kj14 a0 a1 a2 a0 a1 a2 (t908 != t913)) else (gemotlaw1_TermMakes.j2 kj14 a0 a1 a2 a0 a1 a2 true)) else (gemotlaw1_TermMakes.j2 kj14 a0 a1 a2 a0 a1 a2 true)) else (gemotlaw1_TermMakes.j2 kj14 a0 a1 a2 a0 a1 a2 true)) = some r := H
              have A27 := Aside0.mk A270
              clear A270
              have HC28 := Aside0.mk H
              clear H
              go_upto_region 17 with (first | ((with_reducible refine gate_callee (f := 92) rfl ?_); refine goesL_ (some 84) rfl rfl Try.func92 (by kernel_rfl) rfl #[.string a0, .string a1] rfl (by (try simp only [List.map_toArray, List.map_cons, List.map_nil]); first | done | rfl | (simp only [List.length_drop, List.length_take]; rfl)) ?_; (with_reducible refine (term_Pair.calls a0 a1 t900 t901 _ A24.out).mono ?_); rintro e w29 ⟨rfl, hb⟩; refine ⟨_, rfl, ?_⟩; have n0_ := Aside0.mk (below_step (by repeat (first | (with_reducible first | exact HB.out | apply below_alloc | apply pw_below_drewN | apply below_drew1) | exact HB.out)) hb); clear HB; have HB := n0_; clear n0_; (try clear hb); (try clear hb2); (try clear hk); (try clear hi)) | ((with_reducible refine gate_dst (N := 90) rfl ?_); (try (refine gate_guard (by rfl) ?_; dsimp only)); refine Kd.R_lit Kd.string _ 9 ?hg (N := 90) ?hd (xs := ([a0, a1] : List ByteArray)) (inner := [.string a0, .string a1]) (ok := fun _ => True) (okp := fun _ => True) ?hr ?hp (fun _ hk => hk) trivial (Below.refl _ _) (Nat.le_refl _) (by simp) ?_; (case hd => rfl); (case hg => rfl); (case hr => first | (go_simp; done) | (go_simp; rfl)); (case hp => exact (Reps.one (show Kd.M Kd.string _ _ _ a0 [.string a0] from rfl) (Reps.one (show Kd.M Kd.string _ _ _ a1 [.string a1] from rfl) (Reps.none _ _)))); intro v903 w30 ho31 hb hg_ hnew_; clear hg_ hnew_; (first | rw [← Ny902.out] at ho31 | (simp only [Int.reduceToNat] at ho31; rw [← Ny902.out] at ho31)); have n0_ := Aside0.mk (Kd.R_lower ho31 (below_size (by repeat (first | (with_reducible first | exact HB.out | apply below_alloc | apply pw_below_drewN | apply below_drew1) | exact HB.out)))); have n1_ := Aside0.mk (below_step (by repeat (first | (with_reducible first | exact HB.out | apply below_alloc | apply pw_below_drewN | apply below_drew1) | exact HB.out)) hb); clear HB; have HO904 := n0_; have HB := n1_; clear n0_ n1_; clear hb ho31; obtain ⟨Ao32, co32, eo32⟩ := Kd.R_slice HO904.out; subst eo32) | ((with_reducible refine gate_callee (f := 93) rfl ?_); refine goesL_ (some 91) rfl rfl Try.func93 (by kernel_rfl) rfl #[.string (⟨#[112]⟩ : ByteArray), .slice Ao32 y902.length co32] rfl (by (try simp only [List.map_toArray, List.map_cons, List.map_nil]); first | done | rfl | (simp only [List.length_drop, List.length_take]; rfl)) ?_; (with_reducible refine (gemotref1_Of.calls (⟨#[112]⟩ : ByteArray) _ _ y902 t905 t906 _ ?side1 ?side2 A25.out).mono ?_); (case side1 => repeat (first | exact (Kd.R_reads' HO904.out).2.2 | (with_reducible refine Kd.C_alloc ?_ _) | (with_reducible refine Kd.C_drewN ?_ _) | (with_reducible refine Kd.C_drew ?_))); (case side2 => exact (Kd.R_reads' HO904.out).2.1); rintro e w33 ⟨rfl, hb⟩; refine ⟨_, rfl, ?_⟩; have n0_ := Aside0.mk (Kd.R_below (by (with_reducible repeat (first | apply Kd.R_alloc | apply Kd.R_drewN | apply Kd.R_drew)); exact HO904.out) hb); have n1_ := Aside0.mk (below_step (by repeat (first | (with_reducible first | exact HB.out | apply below_alloc | apply pw_below_drewN | apply below_drew1) | exact HB.out)) hb); clear HO904; clear HB; have HO904 := n0_; have HB := n1_; clear n0_ n1_; (try clear hb); (try clear hb2); (try clear hk); (try clear hi)) | ((with_reducible refine gate_callee (f := 94) rfl ?_); refine goesL_ (some 96) rfl rfl Try.func94 (by kernel_rfl) rfl #[.string a0] rfl (by (try simp only [List.map_toArray, List.map_cons, List.map_nil]); first | done | rfl | (simp only [List.length_drop, List.length_take]; rfl)) ?_; (with_reducible refine (term_Hash.calls a0 t907 t908 _ A26.out).mono ?_); rintro e w34 ⟨rfl, hb⟩; refine ⟨_, rfl, ?_⟩; have n0_ := Aside0.mk (Kd.R_below (by (with_reducible repeat (first | apply Kd.R_alloc | apply Kd.R_drewN | apply Kd.R_drew)); exact HO904.out) hb); have n1_ := Aside0.mk (below_step (by repeat (first | (with_reducible first | exact HB.out | apply below_alloc | apply pw_below_drewN | apply below_drew1) | exact HB.out)) hb); clear HO904; clear HB; have HO904 := n0_; have HB := n1_; clear n0_ n1_; (try clear hb); (try clear hb2); (try clear hk); (try clear hi)) | ((with_reducible refine gate_dst (N := 101) rfl ?_); (try (refine gate_guard (by rfl) ?_; dsimp only)); refine Kd.R_lit Kd.string _ 9 ?hg (N := 101) ?hd (xs := ([a0] : List ByteArray)) (inner := [.string a0]) (ok := fun _ => True) (okp := fun _ => True) ?hr ?hp (fun _ hk => hk) trivial (Below.refl _ _) (Nat.le_refl _) (by simp) ?_; (case hd => rfl); (case hg => rfl); (case hr => first | (go_simp; done) | (go_simp; rfl)); (case hp => exact (Reps.one (show Kd.M Kd.string _ _ _ a0 [.string a0] from rfl) (Reps.none _ _))); intro v910 w35 ho36 hb hg_ hnew_; clear hg_ hnew_; (first | rw [← Ny909.out] at ho36 | (simp only [Int.reduceToNat] at ho36; rw [← Ny909.out] at ho36)); have n0_ := Aside0.mk (Kd.R_elder' (by (with_reducible repeat (first | apply Kd.R_alloc | apply Kd.R_drewN | apply Kd.R_drew)); exact HO904.out) (Kd.R_base ho36) hb); have n1_ := Aside0.mk (Kd.R_lower (Kd.R_new' ho36 (Kd.R_lt (by (with_reducible repeat (first | apply Kd.R_alloc | apply Kd.R_drewN | apply Kd.R_drew)); exact HO904.out))) (below_size (by repeat (first | (with_reducible first | exact HB.out | apply below_alloc | apply pw_below_drewN | apply below_drew1) | exact HB.out)))); have n2_ := Aside0.mk (below_step (by repeat (first | (with_reducible first | exact HB.out | apply below_alloc | apply pw_below_drewN | apply below_drew1) | exact HB.out)) hb); clear HO904; clear HB; have HO904 := n0_; have HO911 := n1_; have HB := n2_; clear n0_ n1_ n2_; clear hb ho36; obtain ⟨Ao37, co37, eo37⟩ := Kd.R_slice HO911.out; subst eo37) | ((with_reducible refine gate_callee (f := 93) rfl ?_); refine goesL_ (some 102) rfl rfl Try.func93 (by kernel_rfl) rfl #[.string (⟨#[104]⟩ : ByteArray), .slice Ao37 y909.length co37] rfl (by (try simp only [List.map_toArray, List.map_cons, List.map_nil]); first | done | rfl | (simp only [List.length_drop, List.length_take]; rfl)) ?_; (with_reducible refine (gemotref1_Of.calls (⟨#[104]⟩ : ByteArray) _ _ y909 t912 t913 _ ?side1 ?side2 A27.out).mono ?_); (case side1 => repeat (first | exact (Kd.R_reads' HO911.out).2.2 | (with_reducible refine Kd.C_alloc ?_ _) | (with_reducible refine Kd.C_drewN ?_ _) | (with_reducible refine Kd.C_drew ?_))); (case side2 => exact (Kd.R_reads' HO911.out).2.1); rintro e w38 ⟨rfl, hb⟩; refine ⟨_, rfl, ?_⟩; have n0_ := Aside0.mk (Kd.R_below (by (with_reducible repeat (first | apply Kd.R_alloc | apply Kd.R_drewN | apply Kd.R_drew)); exact HO904.out) hb); have n1_ := Aside0.mk (Kd.R_below (by (with_reducible repeat (first | apply Kd.R_alloc | apply Kd.R_drewN | apply Kd.R_drew)); exact HO911.out) hb); have n2_ := Aside0.mk (below_step (by repeat (first | (with_reducible first | exact HB.out | apply below_alloc | apply pw_below_drewN | apply below_drew1) | exact HB.out)) hb); clear HO904; clear HO911; clear HB; have HO904 := n0_; have HO911 := n1_; have HB := n2_; clear n0_ n1_ n2_; (try clear hb); (try clear hb2); (try clear hk); (try clear hi)))
              (try simp only [Act.put, List.setIfInBounds_toArray, List.set_cons_zero, List.set_cons_succ])
              go_cut [122] (fun v122 wc => ∃ (kq : Nat) (x122_27 : Bool), v122 = .bool x122_27 ∧ Aside0 (gemotlaw1_TermMakes.j2 kq a0 a1 a2 a0 a1 a2 x122_27 = some r) ∧ Aside0 (kq ≤ kj14) ∧ Aside0 (Below w.heap.size w wc))
              case first =>
                have H := HC28.out
                clear HC28
                by_cases c39 : t900.toList = t905.toList
                · rw [if_pos c39] at H
                  have c39b0 : (t900.toList == t905.toList) = true := beq_iff_eq.mpr c39
                  have c39b1 : (t900.toList != t905.toList) = false := bne_eq_false_iff_eq.mpr c39
                  clear c39
                  (first | rw [c39b0] | (simp only [i64_w, i32_w]; rw [c39b0]) | skip)
                  by_cases c40 : t901 = t906
                  · rw [if_pos c40] at H
                    have c40b0 : (t901 == t906) = true := beq_iff_eq.mpr c40
                    have c40b1 : (t901 != t906) = false := bne_eq_false_iff_eq.mpr c40
                    clear c40
                    by_cases c41 : t907.toList = t912.toList
                    · rw [if_pos c41] at H
                      have c41b0 : (t907.toList == t912.toList) = true := beq_iff_eq.mpr c41
                      have c41b1 : (t907.toList != t912.toList) = false := bne_eq_false_iff_eq.mpr c41
                      clear c41
                      have H' := Aside0.mk H
                      clear H
                      go_wp2
                      go_meet
                      case rel => exact ⟨_, ((t908 != t913)), (by first | rfl | (simp; done) | (simp [*]; done)), H', ⟨by have := HJ4.out; have := HJ14.out; first | omega | exact Nat.le_refl _⟩, ⟨by repeat (first | (with_reducible first | exact HB.out | apply below_alloc | apply pw_below_drewN | apply below_drew1) | exact HB.out)⟩⟩
                    · rw [if_neg c41] at H
                      have c41b0 : (t907.toList == t912.toList) = false := beq_eq_false_iff_ne.mpr c41
                      have c41b1 : (t907.toList != t912.toList) = true := bne_iff_ne.mpr c41
                      have H' := Aside0.mk H
                      clear H
                      go_wp2
                      go_meet
                      case rel => exact ⟨_, (true), (by first | rfl | (simp; done) | (simp [*]; done)), H', ⟨by have := HJ4.out; have := HJ14.out; first | omega | exact Nat.le_refl _⟩, ⟨by repeat (first | (with_reducible first | exact HB.out | apply below_alloc | apply pw_below_drewN | apply below_drew1) | exact HB.out)⟩⟩
                  · rw [if_neg c40] at H
                    have c40b0 : (t901 == t906) = false := beq_eq_false_iff_ne.mpr c40
                    have c40b1 : (t901 != t906) = true := bne_iff_ne.mpr c40
                    have H' := Aside0.mk H
                    clear H
                    go_wp2
                    go_meet
                    case rel => exact ⟨_, (true), (by first | rfl | (simp; done) | (simp [*]; done)), H', ⟨by have := HJ4.out; have := HJ14.out; first | omega | exact Nat.le_refl _⟩, ⟨by repeat (first | (with_reducible first | exact HB.out | apply below_alloc | apply pw_below_drewN | apply below_drew1) | exact HB.out)⟩⟩
                · rw [if_neg c39] at H
                  have c39b0 : (t900.toList == t905.toList) = false := beq_eq_false_iff_ne.mpr c39
                  have c39b1 : (t900.toList != t905.toList) = true := bne_iff_ne.mpr c39
                  (first | rw [c39b0] | (simp only [i64_w, i32_w]; rw [c39b0]) | skip)
                  have H' := Aside0.mk H
                  clear H
                  go_wp2
                  go_meet
                  case rel => exact ⟨_, (true), (by first | rfl | (simp; done) | (simp [*]; done)), H', ⟨by have := HJ4.out; have := HJ14.out; first | omega | exact Nat.le_refl _⟩, ⟨by repeat (first | (with_reducible first | exact HB.out | apply below_alloc | apply pw_below_drewN | apply below_drew1) | exact HB.out)⟩⟩
              case rest =>
                clear HC28
                try clear c1
                try clear c2
                try clear p2
                try clear c3
                try clear c4
                try clear c7
                try clear c8
                try clear c8b0
                try clear c8b1
                try clear c9
                try clear c9b0
                try clear c9b1
                try clear c10
                try clear c16
                try clear c20
                try clear c20b0
                try clear c20b1
                try clear c21
                try clear c21b0
                try clear c21b1
                try clear c22
                try clear c22b0
                try clear c22b1
                try clear c23
                try clear c39
                try clear c39b0
                try clear c39b1
                try clear c40
                try clear c40b0
                try clear c40b1
                try clear c41
                try clear c41b0
                try clear c41b1
                try clear p2
                obtain ⟨kq, x122_27, rfl, HA, HJ27, HB⟩ := hcut
                cases kq with
                | zero => exact absurd HA.out (by simp [gemotlaw1_TermMakes.j2])
                | succ kj27 =>
                  have H := HA.out
                  clear HA
                  simp only [gemotlaw1_TermMakes.j2] at H
                  by_cases c42 : x122_27 = true
                  · subst c42
                    have H1 : (none) = some r := by rw [if_pos rfl] at H; exact H
                    exact absurd H1 (by simp)
                  · replace c42 := Bool.eq_false_iff.mpr c42
                    subst c42
                    have H1 : ((term_Seal.f a0 a1 a2).bind fun bt914 => ((gemotref1_Of.f (⟨#[115]⟩ : ByteArray) (([a0, a1, a2] : List ByteArray))).bind fun bt919 => ((term_Sign.f a0 a1).bind fun bt921 => ((gemotref1_Of.f (⟨#[120]⟩ : ByteArray) (([a0, a1] : List ByteArray))).bind fun bt926 => (if bt914.1.toList = bt919.1.toList then (if bt914.2 = bt919.2 then (if bt921.1.toList = bt926.1.toList then (some (bt921.2 == bt926.2)) else (none)) else (none)) else (none)))))) = some r := by rw [if_neg (show ¬ (false = true) by decide)] at H; exact H
                    clear H
                    have H := H1
                    clear H1
                    replace H := Option.bind_eq_some_iff.mp H
                    obtain ⟨⟨t914, t915⟩, A430, H⟩ := H
                    replace H : ((gemotref1_Of.f (⟨#[115]⟩ : ByteArray) (([a0, a1, a2] : List ByteArray))).bind fun bt919 => ((term_Sign.f a0 a1).bind fun bt921 => ((gemotref1_Of.f (⟨#[120]⟩ : ByteArray) (([a0, a1] : List ByteArray))).bind fun bt926 => (if t914.toList = bt919.1.toList then (if t915 = bt919.2 then (if bt921.1.toList = bt926.1.toList then (some (bt921.2 == bt926.2)) else (none)) else (none)) else (none))))) = some r := H
                    have A43 := Aside0.mk A430
                    clear A430
                    obtain ⟨y916, hy916⟩ : ∃ y_ : List ByteArray, y_ = (([a0, a1, a2] : List ByteArray)) := ⟨_, rfl⟩
                    replace H : ((gemotref1_Of.f (⟨#[115]⟩ : ByteArray) y916).bind fun bt919 => ((term_Sign.f a0 a1).bind fun bt921 => ((gemotref1_Of.f (⟨#[120]⟩ : ByteArray) (([a0, a1] : List ByteArray))).bind fun bt926 => (if t914.toList = bt919.1.toList then (if t915 = bt919.2 then (if bt921.1.toList = bt926.1.toList then (some (bt921.2 == bt926.2)) else (none)) else (none)) else (none))))) = some r := by first | (rw [hy916]; with_reducible exact H) | (have H2_ := (Option.bind_some _ _).symm.trans H; rw [hy916]; with_reducible exact H2_) | (have H2_ := (Option.bind_some _ _).symm.trans H; with_reducible exact H2_) | with_reducible exact H | (rw [hy916]; exact H) | exact H
                    have Ny916 := Aside0.mk hy916
                    clear hy916
                    replace H := Option.bind_eq_some_iff.mp H
                    obtain ⟨⟨t919, t920⟩, A440, H⟩ := H
                    replace H : ((term_Sign.f a0 a1).bind fun bt921 => ((gemotref1_Of.f (⟨#[120]⟩ : ByteArray) (([a0, a1] : List ByteArray))).bind fun bt926 => (if t914.toList = t919.toList then (if t915 = t920 then (if bt921.1.toList = bt926.1.toList then (some (bt921.2 == bt926.2)) else (none)) else (none)) else (none)))) = some r := H
                    have A44 := Aside0.mk A440
                    clear A440
                    replace H := Option.bind_eq_some_iff.mp H
                    obtain ⟨⟨t921, t922⟩, A450, H⟩ := H
                    replace H : ((gemotref1_Of.f (⟨#[120]⟩ : ByteArray) (([a0, a1] : List ByteArray))).bind fun bt926 => (if t914.toList = t919.toList then (if t915 = t920 then (if t921.toList = bt926.1.toList then (some (t922 == bt926.2)) else (none)) else (none)) else (none))) = some r := H
                    have A45 := Aside0.mk A450
                    clear A450
                    obtain ⟨y923, hy923⟩ : ∃ y_ : List ByteArray, y_ = (([a0, a1] : List ByteArray)) := ⟨_, rfl⟩
                    replace H : ((gemotref1_Of.f (⟨#[120]⟩ : ByteArray) y923).bind fun bt926 => (if t914.toList = t919.toList then (if t915 = t920 then (if t921.toList = bt926.1.toList then (some (t922 == bt926.2)) else (none)) else (none)) else (none))) = some r := by first | (rw [hy923]; with_reducible exact H) | (have H2_ := (Option.bind_some _ _).symm.trans H; rw [hy923]; with_reducible exact H2_) | (have H2_ := (Option.bind_some _ _).symm.trans H; with_reducible exact H2_) | with_reducible exact H | (rw [hy923]; exact H) | exact H
                    have Ny923 := Aside0.mk hy923
                    clear hy923
                    replace H := Option.bind_eq_some_iff.mp H
                    obtain ⟨⟨t926, t927⟩, A460, H⟩ := H
                    replace H : (if t914.toList = t919.toList then (if t915 = t920 then (if t921.toList = t926.toList then (some (t922 == t927)) else (none)) else (none)) else (none)) = some r := H
                    have A46 := Aside0.mk A460
                    clear A460
                    by_cases c47 : t914.toList = t919.toList
                    · rw [if_pos c47] at H
                      have c47b0 : (t914.toList == t919.toList) = true := beq_iff_eq.mpr c47
                      have c47b1 : (t914.toList != t919.toList) = false := bne_eq_false_iff_eq.mpr c47
                      clear c47
                      by_cases c48 : t915 = t920
                      · rw [if_pos c48] at H
                        have c48b0 : (t915 == t920) = true := beq_iff_eq.mpr c48
                        have c48b1 : (t915 != t920) = false := bne_eq_false_iff_eq.mpr c48
                        clear c48
                        by_cases c49 : t921.toList = t926.toList
                        · rw [if_pos c49] at H
                          have c49b0 : (t921.toList == t926.toList) = true := beq_iff_eq.mpr c49
                          have c49b1 : (t921.toList != t926.toList) = false := bne_eq_false_iff_eq.mpr c49
                          clear c49
                          obtain rfl := Option.some.inj H
                          go_wp2_with (first | ((with_reducible refine gate_callee (f := 95) rfl ?_); refine goesL_ (some 127) rfl rfl Try.func95 (by kernel_rfl) rfl #[.string a0, .string a1, .string a2] rfl (by (try simp only [List.map_toArray, List.map_cons, List.map_nil]); first | done | rfl | (simp only [List.length_drop, List.length_take]; rfl)) ?_; (with_reducible refine (term_Seal.calls a0 a1 a2 t914 t915 _ A43.out).mono ?_); rintro e w50 ⟨rfl, hb⟩; refine ⟨_, rfl, ?_⟩; have n0_ := Aside0.mk (below_step (by repeat (first | (with_reducible first | exact HB.out | apply below_alloc | apply pw_below_drewN | apply below_drew1) | exact HB.out)) hb); clear HB; have HB := n0_; clear n0_; (try clear hb); (try clear hb2); (try clear hk); (try clear hi)) | ((with_reducible refine gate_dst (N := 134) rfl ?_); (try (refine gate_guard (by rfl) ?_; dsimp only)); refine Kd.R_lit Kd.string _ 9 ?hg (N := 134) ?hd (xs := ([a0, a1, a2] : List ByteArray)) (inner := [.string a0, .string a1, .string a2]) (ok := fun _ => True) (okp := fun _ => True) ?hr ?hp (fun _ hk => hk) trivial (Below.refl _ _) (Nat.le_refl _) (by simp) ?_; (case hd => rfl); (case hg => rfl); (case hr => first | (go_simp; done) | (go_simp; rfl)); (case hp => exact (Reps.one (show Kd.M Kd.string _ _ _ a0 [.string a0] from rfl) (Reps.one (show Kd.M Kd.string _ _ _ a1 [.string a1] from rfl) (Reps.one (show Kd.M Kd.string _ _ _ a2 [.string a2] from rfl) (Reps.none _ _))))); intro v917 w51 ho52 hb hg_ hnew_; clear hg_ hnew_; (first | rw [← Ny916.out] at ho52 | (simp only [Int.reduceToNat] at ho52; rw [← Ny916.out] at ho52)); have n0_ := Aside0.mk (Kd.R_lower ho52 (below_size (by repeat (first | (with_reducible first | exact HB.out | apply below_alloc | apply pw_below_drewN | apply below_drew1) | exact HB.out)))); have n1_ := Aside0.mk (below_step (by repeat (first | (with_reducible first | exact HB.out | apply below_alloc | apply pw_below_drewN | apply below_drew1) | exact HB.out)) hb); clear HB; have HO918 := n0_; have HB := n1_; clear n0_ n1_; clear hb ho52; obtain ⟨Ao53, co53, eo53⟩ := Kd.R_slice HO918.out; subst eo53) | ((with_reducible refine gate_callee (f := 93) rfl ?_); refine goesL_ (some 135) rfl rfl Try.func93 (by kernel_rfl) rfl #[.string (⟨#[115]⟩ : ByteArray), .slice Ao53 y916.length co53] rfl (by (try simp only [List.map_toArray, List.map_cons, List.map_nil]); first | done | rfl | (simp only [List.length_drop, List.length_take]; rfl)) ?_; (with_reducible refine (gemotref1_Of.calls (⟨#[115]⟩ : ByteArray) _ _ y916 t919 t920 _ ?side1 ?side2 A44.out).mono ?_); (case side1 => repeat (first | exact (Kd.R_reads' HO918.out).2.2 | (with_reducible refine Kd.C_alloc ?_ _) | (with_reducible refine Kd.C_drewN ?_ _) | (with_reducible refine Kd.C_drew ?_))); (case side2 => exact (Kd.R_reads' HO918.out).2.1); rintro e w54 ⟨rfl, hb⟩; refine ⟨_, rfl, ?_⟩; have n0_ := Aside0.mk (Kd.R_below (by (with_reducible repeat (first | apply Kd.R_alloc | apply Kd.R_drewN | apply Kd.R_drew)); exact HO918.out) hb); have n1_ := Aside0.mk (below_step (by repeat (first | (with_reducible first | exact HB.out | apply below_alloc | apply pw_below_drewN | apply below_drew1) | exact HB.out)) hb); clear HO918; clear HB; have HO918 := n0_; have HB := n1_; clear n0_ n1_; (try clear hb); (try clear hb2); (try clear hk); (try clear hi)) | ((with_reducible refine gate_callee (f := 96) rfl ?_); refine goesL_ (some 141) rfl rfl Try.func96 (by kernel_rfl) rfl #[.string a0, .string a1] rfl (by (try simp only [List.map_toArray, List.map_cons, List.map_nil]); first | done | rfl | (simp only [List.length_drop, List.length_take]; rfl)) ?_; (with_reducible refine (term_Sign.calls a0 a1 t921 t922 _ A45.out).mono ?_); rintro e w55 ⟨rfl, hb⟩; refine ⟨_, rfl, ?_⟩; have n0_ := Aside0.mk (Kd.R_below (by (with_reducible repeat (first | apply Kd.R_alloc | apply Kd.R_drewN | apply Kd.R_drew)); exact HO918.out) hb); have n1_ := Aside0.mk (below_step (by repeat (first | (with_reducible first | exact HB.out | apply below_alloc | apply pw_below_drewN | apply below_drew1) | exact HB.out)) hb); clear HO918; clear HB; have HO918 := n0_; have HB := n1_; clear n0_ n1_; (try clear hb); (try clear hb2); (try clear hk); (try clear hi)) | ((with_reducible refine gate_dst (N := 147) rfl ?_); (try (refine gate_guard (by rfl) ?_; dsimp only)); refine Kd.R_lit Kd.string _ 9 ?hg (N := 147) ?hd (xs := ([a0, a1] : List ByteArray)) (inner := [.string a0, .string a1]) (ok := fun _ => True) (okp := fun _ => True) ?hr ?hp (fun _ hk => hk) trivial (Below.refl _ _) (Nat.le_refl _) (by simp) ?_; (case hd => rfl); (case hg => rfl); (case hr => first | (go_simp; done) | (go_simp; rfl)); (case hp => exact (Reps.one (show Kd.M Kd.string _ _ _ a0 [.string a0] from rfl) (Reps.one (show Kd.M Kd.string _ _ _ a1 [.string a1] from rfl) (Reps.none _ _)))); intro v924 w56 ho57 hb hg_ hnew_; clear hg_ hnew_; (first | rw [← Ny923.out] at ho57 | (simp only [Int.reduceToNat] at ho57; rw [← Ny923.out] at ho57)); have n0_ := Aside0.mk (Kd.R_elder' (by (with_reducible repeat (first | apply Kd.R_alloc | apply Kd.R_drewN | apply Kd.R_drew)); exact HO918.out) (Kd.R_base ho57) hb); have n1_ := Aside0.mk (Kd.R_lower (Kd.R_new' ho57 (Kd.R_lt (by (with_reducible repeat (first | apply Kd.R_alloc | apply Kd.R_drewN | apply Kd.R_drew)); exact HO918.out))) (below_size (by repeat (first | (with_reducible first | exact HB.out | apply below_alloc | apply pw_below_drewN | apply below_drew1) | exact HB.out)))); have n2_ := Aside0.mk (below_step (by repeat (first | (with_reducible first | exact HB.out | apply below_alloc | apply pw_below_drewN | apply below_drew1) | exact HB.out)) hb); clear HO918; clear HB; have HO918 := n0_; have HO925 := n1_; have HB := n2_; clear n0_ n1_ n2_; clear hb ho57; obtain ⟨Ao58, co58, eo58⟩ := Kd.R_slice HO925.out; subst eo58) | ((with_reducible refine gate_callee (f := 93) rfl ?_); refine goesL_ (some 148) rfl rfl Try.func93 (by kernel_rfl) rfl #[.string (⟨#[120]⟩ : ByteArray), .slice Ao58 y923.length co58] rfl (by (try simp only [List.map_toArray, List.map_cons, List.map_nil]); first | done | rfl | (simp only [List.length_drop, List.length_take]; rfl)) ?_; (with_reducible refine (gemotref1_Of.calls (⟨#[120]⟩ : ByteArray) _ _ y923 t926 t927 _ ?side1 ?side2 A46.out).mono ?_); (case side1 => repeat (first | exact (Kd.R_reads' HO925.out).2.2 | (with_reducible refine Kd.C_alloc ?_ _) | (with_reducible refine Kd.C_drewN ?_ _) | (with_reducible refine Kd.C_drew ?_))); (case side2 => exact (Kd.R_reads' HO925.out).2.1); rintro e w59 ⟨rfl, hb⟩; refine ⟨_, rfl, ?_⟩; have n0_ := Aside0.mk (Kd.R_below (by (with_reducible repeat (first | apply Kd.R_alloc | apply Kd.R_drewN | apply Kd.R_drew)); exact HO918.out) hb); have n1_ := Aside0.mk (Kd.R_below (by (with_reducible repeat (first | apply Kd.R_alloc | apply Kd.R_drewN | apply Kd.R_drew)); exact HO925.out) hb); have n2_ := Aside0.mk (below_step (by repeat (first | (with_reducible first | exact HB.out | apply below_alloc | apply pw_below_drewN | apply below_drew1) | exact HB.out)) hb); clear HO918; clear HO925; clear HB; have HO918 := n0_; have HO925 := n1_; have HB := n2_; clear n0_ n1_ n2_; (try clear hb); (try clear hb2); (try clear hk); (try clear hi)))
                          go_ret
                          exact ⟨by first | rfl | (simp [errW_none, errW_some] <;> rfl) | (simp [*, errW_none, errW_some] <;> rfl), by repeat (first | (with_reducible first | exact HB.out | apply below_alloc | apply pw_below_drewN | apply below_drew1) | exact HB.out)⟩
                        · rw [if_neg c49] at H
                          exact absurd H (by simp)
                      · rw [if_neg c48] at H
                        exact absurd H (by simp)
                    · rw [if_neg c47] at H
                      exact absurd H (by simp)

/-- THE ONE PURE STATEMENT of gemotlaw1_TermMakes: yours. -/
def gemotlaw1_TermMakes.Pure : Prop := ∀ (a0 : ByteArray) (a1 : ByteArray) (a2 : ByteArray), a0.size ≤ 140737488351232 → a1.size ≤ 140737488351232 → a2.size ≤ 140737488351232 → ∃ k, gemotlaw1_TermMakes.f k a0 a1 a2 = some true
theorem gemotlaw1_TermMakes.walk (P : gemotlaw1_TermMakes.Pure) (a0 : ByteArray) (a1 : ByteArray) (a2 : ByteArray) (w : World) (w0 : a0.size ≤ 140737488351232) (w1 : a1.size ≤ 140737488351232) (w2 : a2.size ≤ 140737488351232) :
    Calls Try.prog 16 #[.string a0, .string a1, .string a2] w fun e w' => e = .returned (.bool true) ∧ Below w.heap.size w w' := by
  obtain ⟨k, h⟩ := P a0 a1 a2 w0 w1 w2
  refine (gemotlaw1_TermMakes.calls k a0 a1 a2 true w h).mono ?_
  rintro e w' ⟨rfl, hd⟩
  exact ⟨rfl, hd⟩

end Go.Proofs.Ytpfpmjdifnoeoaa.F
namespace Go.Proofs.Ytpfpmjdifnoeoaa.F
open Go.RowKit Go.Proofs.YtpfpmjdifnoeoaaW.PrintWords Go.Proofs.YtpfpmjdifnoeoaaW.PrintLast Go.Proofs.YtpfpmjdifnoeoaaW.PrintMore
attribute [local go_sem] max2_int min2_int max_two min_two max_three min_three max_four min_four
set_option linter.unusedVariables false
set_option linter.unusedSimpArgs false

/-! ### term_Depth: function 87 -/
/-! #### term_Depth_p: function 87 -/
def term_Depth_p.f (a0 : ByteArray) : Option (Int) := (term_Right.f a0).bind fun t808 => (if t808 = true then ((term_scan.f a0).bind fun bt809 => (some bt809.2.1)) else (some 0))
set_option maxHeartbeats 8000000 in
set_option maxRecDepth 100000 in
theorem term_Depth_p.calls (a0 : ByteArray) (r : Int) (w : World) (h : term_Depth_p.f a0 = some r) :
    Calls Try.prog 87 #[.string a0] w fun e w' => e = .returned (.int .i64 r) ∧ Below w.heap.size w w' := by
  have HB := Aside0.mk (Below.refl w.heap.size w)
  have H : ((term_Right.f a0).bind fun t808 => (if t808 = true then ((term_scan.f a0).bind fun bt809 => (some bt809.2.1)) else (some 0))) = some r := h
  clear h
  replace H := Option.bind_eq_some_iff.mp H
  obtain ⟨t808, A20, H⟩ := H
  replace H : (if t808 = true then ((term_scan.f a0).bind fun bt809 => (some bt809.2.1)) else (some 0)) = some r := H
  have A2 := Aside0.mk A20
  clear A20
  by_cases c3 : t808 = true
  · subst c3
    have H1 : ((term_scan.f a0).bind fun bt809 => (some bt809.2.1)) = some r := by rw [if_pos rfl] at H; exact H
    clear H
    have H := H1
    clear H1
    replace H := Option.bind_eq_some_iff.mp H
    obtain ⟨⟨t809, t810, t811⟩, A40, H⟩ := H
    replace H : (some t810) = some r := H
    have A4 := Aside0.mk A40
    clear A40
    obtain rfl := Option.some.inj H
    go_enter Try.func87, Try.ntmps87
    go_wp2_with (first | ((with_reducible refine gate_callee (f := 66) rfl ?_); refine goesL_ (some 7) rfl rfl Try.func66 (by kernel_rfl) rfl #[.string a0] rfl (by (try simp only [List.map_toArray, List.map_cons, List.map_nil]); first | done | rfl | (simp only [List.length_drop, List.length_take]; rfl)) ?_; (with_reducible refine (term_Right.calls a0 true _ A2.out).mono ?_); rintro e w5 ⟨rfl, hb⟩; refine ⟨_, rfl, ?_⟩; have n0_ := Aside0.mk (below_step (by repeat (first | (with_reducible first | exact HB.out | apply below_alloc | apply pw_below_drewN | apply below_drew1) | exact HB.out)) hb); clear HB; have HB := n0_; clear n0_; (try clear hb); (try clear hb2); (try clear hk); (try clear hi)) | ((with_reducible refine gate_callee (f := 131) rfl ?_); refine goesL_ (some 11) rfl rfl Try.func131 (by kernel_rfl) rfl #[.string a0] rfl (by (try simp only [List.map_toArray, List.map_cons, List.map_nil]); first | done | rfl | (simp only [List.length_drop, List.length_take]; rfl)) ?_; (with_reducible refine (term_scan.calls a0 t809 t810 t811 _ A4.out).mono ?_); rintro e w6 ⟨rfl, hb⟩; refine ⟨_, rfl, ?_⟩; have n0_ := Aside0.mk (below_step (by repeat (first | (with_reducible first | exact HB.out | apply below_alloc | apply pw_below_drewN | apply below_drew1) | exact HB.out)) hb); clear HB; have HB := n0_; clear n0_; (try clear hb); (try clear hb2); (try clear hk); (try clear hi)))
    go_ret
    exact ⟨by first | rfl | (simp [errW_none, errW_some] <;> rfl) | (simp [*, errW_none, errW_some] <;> rfl), by repeat (first | (with_reducible first | exact HB.out | apply below_alloc | apply pw_below_drewN | apply below_drew1) | exact HB.out)⟩
  · replace c3 := Bool.eq_false_iff.mpr c3
    subst c3
    have H1 : (some 0) = some r := by rw [if_neg (show ¬ (false = true) by decide)] at H; exact H
    clear H
    have H := H1
    clear H1
    obtain rfl := Option.some.inj H
    go_enter Try.func87, Try.ntmps87
    go_wp2_with (first | ((with_reducible refine gate_callee (f := 66) rfl ?_); refine goesL_ (some 7) rfl rfl Try.func66 (by kernel_rfl) rfl #[.string a0] rfl (by (try simp only [List.map_toArray, List.map_cons, List.map_nil]); first | done | rfl | (simp only [List.length_drop, List.length_take]; rfl)) ?_; (with_reducible refine (term_Right.calls a0 false _ A2.out).mono ?_); rintro e w7 ⟨rfl, hb⟩; refine ⟨_, rfl, ?_⟩; have n0_ := Aside0.mk (below_step (by repeat (first | (with_reducible first | exact HB.out | apply below_alloc | apply pw_below_drewN | apply below_drew1) | exact HB.out)) hb); clear HB; have HB := n0_; clear n0_; (try clear hb); (try clear hb2); (try clear hk); (try clear hi)))
    go_ret
    exact ⟨by first | rfl | (simp [errW_none, errW_some] <;> rfl) | (simp [*, errW_none, errW_some] <;> rfl), by repeat (first | (with_reducible first | exact HB.out | apply below_alloc | apply pw_below_drewN | apply below_drew1) | exact HB.out)⟩

def depthF (t : ByteArray) : Int := if rightB t = true then (scanF t).2.1 else 0
def term_Depth.f (t : ByteArray) : Option Int := if t.size < 9223372036854775000 then some (depthF t) else none
theorem term_Depth.eq (t : ByteArray) (hs : t.size < 9223372036854775000) : term_Depth_p.f t = term_Depth.f t := by
  unfold term_Depth_p.f term_Right.f term_scan.f term_Depth.f depthF
  rw [if_pos hs, if_pos hs, if_pos hs]
  simp only [Option.bind_some]
  split <;> rfl
theorem term_Depth.calls (a0 : ByteArray) (r : Int) (w : World) (h : term_Depth.f a0 = some r) :
    Calls Try.prog 87 #[.string a0] w fun e w' => e = .returned (.int .i64 r) ∧ Below w.heap.size w w' := by
  have hs : a0.size < 9223372036854775000 := by
    unfold term_Depth.f at h
    split at h
    · assumption
    · cases h
  exact term_Depth_p.calls a0 r w ((term_Depth.eq a0 hs).trans h)

end Go.Proofs.Ytpfpmjdifnoeoaa.F
namespace Go.Proofs.Ytpfpmjdifnoeoaa.Pure
set_option linter.unusedVariables false
set_option linter.unusedSimpArgs false
open Go.RowKit Go.Proofs.Ytpfpmjdifnoeoaa.F Go.Proofs.YtpfpmjdifnoeoaaW.PrintWords Go.Proofs.YtpfpmjdifnoeoaaW.PrintLast Go.Proofs.YtpfpmjdifnoeoaaW.PrintMore

theorem rg64 {a : Int} (h : (Lit.int .i64 a).wf = true) : -9223372036854775808 ≤ a ∧ a ≤ 9223372036854775807 := by
  simp only [Lit.wf, IntKind.min, IntKind.max, IntKind.signed, IntKind.bits, Bool.and_eq_true, decide_eq_true_eq, if_true, Bool.false_eq_true, if_false] at h
  omega
theorem rgu64 {a : Int} (h : (Lit.int .u64 a).wf = true) : 0 ≤ a ∧ a < 18446744073709551616 := by
  simp only [Lit.wf, IntKind.min, IntKind.max, IntKind.signed, IntKind.bits, Bool.and_eq_true, decide_eq_true_eq, if_true, Bool.false_eq_true, if_false] at h
  omega
theorem tl_eq {a b : ByteArray} : a.toList = b.toList ↔ a = b :=
  ⟨fun h => by rw [ByteArray.toList_eq, ByteArray.toList_eq] at h; exact ByteArray.ext (Array.ext' h), fun h => by rw [h]⟩
theorem tl_beq {a b c d : ByteArray} (h : a = b ↔ c = d) : (a.toList == b.toList) = (c.toList == d.toList) := by
  rw [Bool.eq_iff_iff, beq_iff_eq, beq_iff_eq, tl_eq, tl_eq]; exact h
theorem tl_beq_int {a b : ByteArray} {x y : Int} (h : a = b ↔ x = y) : (a.toList == b.toList) = (x == y) := by
  rw [Bool.eq_iff_iff, beq_iff_eq, beq_iff_eq, tl_eq]; exact h
theorem ne_bt {a b : ByteArray} (h : bt a 0 ≠ bt b 0) : ¬ a.toList = b.toList := fun q => h (by rw [tl_eq.mp q])
theorem tl_nil {a : ByteArray} : a.toList = ([] : List UInt8) ↔ a = ⟨#[]⟩ := by
  have : (⟨#[]⟩ : ByteArray).toList = [] := by rw [ByteArray.toList_eq]
  constructor
  · intro h; exact tl_eq.mp (h.trans this.symm)
  · intro h; rw [h, this]
theorem depth_right {t : ByteArray} (h : rightB t = true) : depthF t = depF t := by
  have ht := ((right_iff t).mp h).1
  unfold depthF scanF
  rw [if_pos h, if_pos ht.1]; rfl
theorem depth_not {t : ByteArray} (h : rightB t = false) : depthF t = 0 := by
  unfold depthF
  rw [if_neg (by rw [h]; simp)]
theorem leaf_dep {t : ByteArray} (h : Leaf t) (hs : t.size ≤ 20000) : depthF t = 1 := by rw [depth_right (h.right hs), h.tm.2]
theorem Part.dep1 {m : Int} {t : ByteArray} (h : Part m t) : 1 ≤ depF t := h.tm.dep.1
/-! ### Eight bytes say a number -/
theorem cnt_byte {a b : Int} (h : UInt8.ofNat (a % 256).toNat = UInt8.ofNat (b % 256).toNat) : a % 256 = b % 256 := by
  have := congrArg UInt8.toNat h
  rw [UInt8.toNat_ofNat_of_lt' (by show (a % 256).toNat < 256; omega), UInt8.toNat_ofNat_of_lt' (by show (b % 256).toNat < 256; omega)] at this
  omega
theorem cnt_inj {c a b : Int} (ha : 0 ≤ a ∧ a < 18446744073709551616) (hb : 0 ≤ b ∧ b < 18446744073709551616) (h : countF c a = countF c b) : a = b := by
  have h1 := congrArg (fun x => x.data.toList) h
  simp only [countF, strOfNums, eightL, List.map_cons, List.map_nil, List.toList_toArray, List.cons.injEq, and_true, true_and] at h1
  obtain ⟨h7, h6, h5, h4, h3, h2, h1, h0⟩ := h1
  replace h7 := cnt_byte h7
  replace h6 := cnt_byte h6
  replace h5 := cnt_byte h5
  replace h4 := cnt_byte h4
  replace h3 := cnt_byte h3
  replace h2 := cnt_byte h2
  replace h1 := cnt_byte h1
  replace h0 := cnt_byte h0
  have s : ∀ (x : Int) (j : Nat), j ≤ 64 → shr .u64 x (j : Int) = x / ((2 ^ j : Nat) : Int) := by
    intro x j hj
    unfold shr
    rw [Nat.min_eq_left (by show ((j : Int)).toNat ≤ 64; omega), Int.toNat_natCast]
    congr 1
  have t : ∀ (x : Int) (j : Nat), j ≤ 56 → shr .u64 x ((j + 8 : Nat) : Int) = shr .u64 x (j : Int) / 256 := by
    intro x j hj
    rw [s x _ (by omega), s x _ (by omega), Int.ediv_ediv_of_nonneg (Int.natCast_nonneg _), Nat.pow_add]
    simp
  have step : ∀ j : Nat, j ≤ 56 → shr .u64 a (j : Int) % 256 = shr .u64 b (j : Int) % 256 → shr .u64 a ((j + 8 : Nat) : Int) = shr .u64 b ((j + 8 : Nat) : Int) → shr .u64 a (j : Int) = shr .u64 b (j : Int) := by
    intro j hj e1 e2
    rw [t a j hj, t b j hj] at e2
    omega
  have top : shr .u64 a ((64 : Nat) : Int) = shr .u64 b ((64 : Nat) : Int) := by
    rw [s a 64 (by omega), s b 64 (by omega)]
    have : ((2 ^ 64 : Nat) : Int) = 18446744073709551616 := by decide
    rw [this]
    omega
  have r := step 0 (by omega) h0 (step 8 (by omega) h1 (step 16 (by omega) h2 (step 24 (by omega) h3 (step 32 (by omega) h4 (step 40 (by omega) h5 (step 48 (by omega) h6 (step 56 (by omega) h7 top)))))))
  rw [s a 0 (by omega), s b 0 (by omega)] at r
  simpa using r
theorem text_inj {s t : ByteArray} (hs : s.size ≤ 100) (ht : t.size ≤ 100) (h : (textF s).1 = (textF t).1) : s = t := by
  rw [(text_ok hs).1, (text_ok ht).1] at h
  have h2 := congrArg bl h
  rw [bl_app, bl_app] at h2
  exact bl_inj (List.append_inj h2 rfl).2
end Go.Proofs.Ytpfpmjdifnoeoaa.Pure
namespace Go.Proofs.Ytpfpmjdifnoeoaa.Pure
set_option linter.unusedVariables false
set_option linter.unusedSimpArgs false
open Go.RowKit Go.Proofs.Ytpfpmjdifnoeoaa.F Go.Proofs.YtpfpmjdifnoeoaaW.PrintWords Go.Proofs.YtpfpmjdifnoeoaaW.PrintLast Go.Proofs.YtpfpmjdifnoeoaaW.PrintMore

theorem TermMakes : ∀ (a0 : ByteArray) (a1 : ByteArray) (a2 : ByteArray), (a0.size ≤ 9223372036854775807) → (a1.size ≤ 9223372036854775807) → (a2.size ≤ 9223372036854775807) → ∃ k, gemotlaw1_TermMakes.f k a0 a1 a2 = some true := by
  intro a0 a1 a2 _ _ _
  refine ⟨5, ?_⟩
  unfold gemotlaw1_TermMakes.f gemotlaw1_shown.f
  rw [Option.bind_some, if_pos rfl]
  by_cases c0 : (a0.size : Int) > 3000
  · rw [if_pos c0]; rfl
  rw [if_neg c0]
  by_cases c1 : (a1.size : Int) > 3000
  · rw [if_pos c1]; rfl
  rw [if_neg c1]
  by_cases c2 : (a2.size : Int) > 3000
  · rw [decide_eq_true c2]; rfl
  rw [decide_eq_false c2, gemotlaw1_TermMakes.j0, if_neg (by decide)]
  have p1 : term_Power.f a0 a1 = some (powF a0 a1) := by unfold term_Power.f; exact if_pos ⟨by omega, by omega⟩
  have q1 : gemotref1_Power.f a0 a1 = some (powF a0 a1) := by unfold gemotref1_Power.f; exact if_pos ⟨by omega, by omega⟩
  have p2 : term_Key.f a0 = some (keyF a0) := by unfold term_Key.f; exact if_pos (by omega)
  have q2 : gemotref1_Key.f a0 = some (keyF a0) := by unfold gemotref1_Key.f; exact if_pos (by omega)
  have p3 : term_Pair.f a0 a1 = some (pairF a0 a1) := by unfold term_Pair.f; exact if_pos ⟨by omega, by omega⟩
  have p4 : term_Hash.f a0 = some (hashF a0) := by unfold term_Hash.f; exact if_pos (by omega)
  have p5 : term_Seal.f a0 a1 a2 = some (sealF a0 a1 a2) := by unfold term_Seal.f; exact if_pos ⟨by omega, by omega, by omega⟩
  have p6 : term_Sign.f a0 a1 = some (signF a0 a1) := by unfold term_Sign.f; exact if_pos ⟨by omega, by omega⟩
  have q : ∀ (h : ByteArray) (l : List ByteArray), h.size ≤ 100 → l.length ≤ 3 → (∀ x ∈ l, x.size < 9223372036854770000) → gemotref1_Of.f h l = some (ofF h l) := fun h l a b c => by unfold gemotref1_Of.f; exact if_pos ⟨a, b, c⟩
  have q3 := q ⟨#[112]⟩ [a0, a1] (by show 1 ≤ 100; omega) (by show 2 ≤ 3; omega) (mem2 (by omega) (by omega))
  have q4 := q ⟨#[104]⟩ [a0] (by show 1 ≤ 100; omega) (by show 1 ≤ 3; omega) (mem1 (by omega))
  have q5 := q ⟨#[115]⟩ [a0, a1, a2] (by show 1 ≤ 100; omega) (by show 3 ≤ 3; omega) (mem3 (by omega) (by omega) (by omega))
  have q6 := q ⟨#[120]⟩ [a0, a1] (by show 1 ≤ 100; omega) (by show 2 ≤ 3; omega) (mem2 (by omega) (by omega))
  have s1 : ∀ x : Int, (x != x) = false := fun x => bne_self_eq_false x
  rw [p1, q1, p2, q2, Option.bind_some, Option.bind_some, Option.bind_some, Option.bind_some, if_pos rfl, if_pos rfl, if_pos rfl, s1, gemotlaw1_TermMakes.j1, if_neg (by decide), p3, q3, p4, q4, Option.bind_some, Option.bind_some, Option.bind_some, Option.bind_some]
  unfold pairF hashF
  rw [if_pos rfl, if_pos rfl, if_pos rfl, s1, gemotlaw1_TermMakes.j2, if_neg (by decide), p5, q5, p6, q6, Option.bind_some, Option.bind_some, Option.bind_some, Option.bind_some]
  unfold sealF signF
  rw [if_pos rfl, if_pos rfl, if_pos rfl, beq_self_eq_true]
end Go.Proofs.Ytpfpmjdifnoeoaa.Pure
namespace Go.Proofs.Ytpfpmjdifnoeoaa.termMakes
open Go.ChangeShapes Go.WideShapes Go.ChangeAt Go.RowKit Go.Proofs.Ytpfpmjdifnoeoaa.F Go.Proofs.YtpfpmjdifnoeoaaW.PrintWords Go.Proofs.YtpfpmjdifnoeoaaW.PrintLast Go.Proofs.YtpfpmjdifnoeoaaW.PrintMore
open Go.ChangeMaps (open_string shut_string)
set_option linter.unusedVariables false
set_option linter.unusedSimpArgs false
theorem own : ownKnob Try.prog.godebug = none := by kernel_rfl
theorem laidOut : laidOutB Try.prog = true := by kernel_rfl
set_option maxRecDepth 100000 in
theorem lifted (os : Os) (started : os.Started) (H : Type) (enc : TypeId × Value → H) :
    ReturnsInHanded {} Try.checked os 16 .any (Rows.termMakesSpec.pre6 enc Try.prog Try.f16 Rows.termMakesRow.domain false) (Rows.termMakesSpec.post enc Try.prog Try.f16 false true false false) := by
  refine returnsInHanded_of_change_sized (C := Try.checked) own started (by kernel_rfl) Try.func16
    (ChangeSpec.witness6 (enc := enc) (C := Try.checked) false ⟨#[], #[.string ByteArray.empty, .string ByteArray.empty, .string ByteArray.empty], []⟩ 8 (by kernel_rfl) (by kernel_rfl) (by kernel_rfl) (by kernel_rfl)) ?_
  intro W base args ds gs before hval0 hW hcnd hsz0 _
  have hval : ∀ (j : Nat) t v, Try.f16.params[j]? = some t → args[j]? = some v → Value.okWide Try.prog W .any base t v := hval0
  have hW' := hW
  obtain ⟨p, q, hA0, hV, rfl, hfz, hnd⟩ := hW
  have hA : DataW.TrodAll enc Try.prog W 0 (fun _ => true) true Try.f16.params.toList args.toList ds p := hA0
  rw [Try.params16] at hA hval
  obtain ⟨v0, vs0, d0, ds0, p0, q0, hargs, rfl, rfl, h0, r0⟩ := trodAll_cons hA
  obtain ⟨v1, vs1, d1, ds1, p1, q1, rfl, rfl, rfl, h1, r1⟩ := trodAll_cons r0
  obtain ⟨v2, vs2, d2, ds2, p2, q2, rfl, rfl, rfl, h2, r2⟩ := trodAll_cons r1
  obtain ⟨rfl, rfl, rfl⟩ := trodAll_nil r2
  obtain rfl : args = #[v0, v1, v2] := by cases args; simp_all
  obtain ⟨rfl, rfl⟩ := trodVars_none hV
  have k0 := h0
  have lt0 : ∀ x ∈ p0, x.block < W.heap.size := by obtain ⟨m, hm⟩ := k0; exact DataW.trod_lt m _ _ _ hm
  obtain ⟨a0, rfl, _, _, w0⟩ := open_string Try.underlying9 (hval 0 9 v0 rfl rfl) h0
  have k1 := h1
  have lt1 : ∀ x ∈ p1, x.block < W.heap.size := by obtain ⟨m, hm⟩ := k1; exact DataW.trod_lt m _ _ _ hm
  obtain ⟨a1, rfl, _, _, w1⟩ := open_string Try.underlying9 (hval 1 9 v1 rfl rfl) h1
  have k2 := h2
  have lt2 : ∀ x ∈ p2, x.block < W.heap.size := by obtain ⟨m, hm⟩ := k2; exact DataW.trod_lt m _ _ _ hm
  obtain ⟨a2, rfl, _, _, w2⟩ := open_string Try.underlying9 (hval 2 9 v2 rfl rfl) h2
  obtain ⟨k, hp⟩ := Pure.TermMakes a0 a1 a2 w0 w1 w2
  refine (gemotlaw1_TermMakes.calls k a0 a1 a2 true W  hp).mono fun e W' he => ?_
  obtain ⟨he, hb⟩ := he
  subst he
  have bel : Below W.heap.size W W' := hb
  exact ⟨_, rfl, _, _, _, [], _, [], hW', trodAll_mk1 (shut_bool Try.underlying4 _), (trodAll_cons_mk (Below.trod laidOut (by kernel_rfl) (of_decide_eq_true (by kernel_rfl)) k0 bel lt0) (trodAll_cons_mk (Below.trod laidOut (by kernel_rfl) (of_decide_eq_true (by kernel_rfl)) k1 bel lt1) (trodAll_cons_mk (Below.trod laidOut (by kernel_rfl) (of_decide_eq_true (by kernel_rfl)) k2 bel lt2) trodAll_mk0))), rfl, bel.frame _, fun h => by cases h⟩
theorem j0 : (Rows.termMakesRow.wf (OpenSpec.ofChange Rows.termMakesSpec)) = true := by kernel_rfl
theorem j1 : (laidOutB Try.pinned.checked.prog) = true := rowfact_laidOut
theorem j2 : (mapsRowed Try.pinned.checked.prog) = true := rowfact_mapsRowed
theorem j3 : (Try.f16.params.all (Try.pinned.checked.prog.readableRec ·)) = true := by kernel_rfl
theorem j4 : (namedTie Try.pinned.checked.prog Rows.termMakesRow.named Rows.termMakesSpec.vars) = true := by kernel_rfl
theorem j5 : ((Rows.termMakesRow.stops == [])) = true := by kernel_rfl
theorem j6 : ((Try.pinned.checked.prog.stops == [])) = true := by kernel_rfl
theorem j7 : ((Rows.termMakesRow.knobs == [])) = true := by kernel_rfl
theorem j8 : ((Try.pinned.checked.prog.stopKnobs == [])) = true := by kernel_rfl
theorem j9 : ((Rows.termMakesRow.inPlace == Try.pinned.checked.prog.inPlace 16)) = true := by kernel_rfl
theorem j10 : ((Rows.termMakesRow.unfollowed == Try.pinned.checked.prog.unfollowed 16)) = true := by kernel_rfl
theorem j11 : ((Rows.termMakesRow.recurses == Try.pinned.checked.prog.recurses 16)) = true := by kernel_rfl
theorem j12 : ((Rows.termMakesRow.named == Try.pinned.checked.prog.varsNamed 16)) = true := by kernel_rfl
theorem j13 : ((Rows.termMakesRow.maps == (Try.f16.params.toList ++ Rows.termMakesSpec.plain.varTypes Try.pinned.checked.prog).any (Try.pinned.checked.prog.mapsRec ·))) = true := by kernel_rfl
theorem j14 : ((Rows.termMakesRow.ifaces == (Try.f16.params.toList ++ Rows.termMakesSpec.plain.varTypes Try.pinned.checked.prog).any (Try.pinned.checked.prog.ifacesRec ·))) = true := by kernel_rfl
theorem j15 : ((Rows.termMakesRow.mapsOut == Try.pinned.checked.prog.mapsAmong Try.f16.resultTypes.toList)) = true := by kernel_rfl
theorem j16 : ((Rows.termMakesRow.loops == (Try.f16.params.toList ++ Rows.termMakesSpec.plain.varTypes Try.pinned.checked.prog).any (Try.pinned.checked.prog.loopsFrom ·))) = true := by kernel_rfl
theorem j17 : ((Rows.termMakesRow.wideKeys == (Try.f16.params.toList ++ Rows.termMakesSpec.plain.varTypes Try.pinned.checked.prog ++ Try.f16.resultTypes.toList).any (Try.pinned.checked.prog.wideKeysFrom ·))) = true := by kernel_rfl
theorem j18 : (Rows.termMakesSpec.vars.all (Try.pinned.checked.prog.varReadable ·)) = true := by kernel_rfl
theorem j19 : (Try.f16.resultTypes.all (fun t => Try.pinned.checked.prog.readableRec t && decide (t < Try.pinned.checked.prog.types.size))) = true := by kernel_rfl
theorem j20 : ((Rows.termMakesRow.ifacesOut == Try.f16.resultTypes.toList.any (Try.pinned.checked.prog.ifacesRec ·))) = true := by kernel_rfl
theorem j21 : ((Rows.termMakesRow.loopsOut == Try.f16.resultTypes.toList.any (Try.pinned.checked.prog.loopsFrom ·))) = true := by kernel_rfl
theorem j22 : ((Rows.termMakesRow.plainKeys == Try.pinned.checked.prog.plainKeys)) = true := by kernel_rfl
theorem j23 : (Rows.termMakesRow.shortTexts.isNone) = true := by kernel_rfl
theorem j24 : (Try.pinned.checked.prog.stopsHeard) = true := rowfact_stopsHeard
theorem j25 : (Try.pinned.checked.prog.mayEnter) = true := rowfact_mayEnter
theorem j26 : ((Rows.termMakesRow.lifted == Try.pinned.checked.prog.liftsFinal)) = true := by rw [rowfact_lifts]; kernel_rfl
theorem j27 : ((Try.pinned.checked.prog.make == some Rows.termMakesRow.make)) = true := by rw [rowfact_make]; kernel_rfl
theorem j28 : ((Rows.termMakesRow.kinds == (if Rows.termMakesRow.domain.isEmpty then [] else Try.f16.params.toList.map fun t => match Try.pinned.checked.prog.underlying t with | some (.int k) => some k | _ => none))) = true := by kernel_rfl
theorem j29 : ((Rows.termMakesRow.pinned == Rows.termMakesRow.pinnedBy)) = true := by kernel_rfl
theorem j30 : ((Rows.termMakesRow.veiled == (Try.f16.params.toList ++ Rows.termMakesSpec.plain.varTypes Try.pinned.checked.prog ++ Try.f16.resultTypes.toList).any (Try.pinned.checked.prog.veiledRec ·))) = true := by kernel_rfl
theorem j31 : (Rows.termMakesRow.veiledFits Try.pinned.checked.prog Try.f16.params.toList (Try.f16.params.toList ++ Rows.termMakesSpec.plain.varTypes Try.pinned.checked.prog ++ Try.f16.resultTypes.toList)) = true := by kernel_rfl
set_option maxRecDepth 100000 in
theorem closed : joinedFacts Try.pinned.checked.prog 16 Try.f16 Rows.termMakesSpec Rows.termMakesRow = true := gen_closed _ _ _ _ _ j0 j1 j2 j3 j4 j5 j6 j7 j8 j9 j10 j11 j12 j13 j14 j15 j16 j17 j18 j19 j20 j21 j22 j23 j24 j25 j26 j27 j28 j29 j30 j31
theorem over : Rows.termMakesRow.holds Try.pinned (OpenSpec.ofChange Rows.termMakesSpec) :=
  OpenClaim.holds_of_wide 16 Try.f16 rfl rfl rfl rfl rfl rfl rfl ⟨rfl, rfl, rfl, rfl, rfl⟩ rfl rfl rfl rfl rfl (by kernel_rfl) Try.func16 closed
    (of_decide_eq_true (by kernel_rfl)) (by unfold Func.isWrapper; first | (rw [if_pos (by decide +kernel)]; kernel_rfl) | (rw [if_neg (by decide +kernel)]; exact ⟨rfl, rfl⟩))
    (fun os started H enc _ => lifted os started H enc)
end Go.Proofs.Ytpfpmjdifnoeoaa.termMakes
namespace Go.Proofs.Ytpfpmjdifnoeoaa
/-- The given statement, proved. -/
theorem termMakes_holds : Rows.TermMakesSaid := termMakes.over
#print axioms termMakes_holds
end Go.Proofs.Ytpfpmjdifnoeoaa
