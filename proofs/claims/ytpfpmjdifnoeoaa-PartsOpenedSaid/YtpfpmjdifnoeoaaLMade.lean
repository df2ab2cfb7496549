/- Terms that are made of raw numbers; what each constructor makes. -/
import Derived.Test.YtpfpmjdifnoeoaaLTerm3
import Derived.Test.YtpfpmjdifnoeoaaF65
import Derived.Test.YtpfpmjdifnoeoaaF79
import Derived.Test.YtpfpmjdifnoeoaaF81
import Derived.Test.YtpfpmjdifnoeoaaF92
import Derived.Test.YtpfpmjdifnoeoaaF94
import Derived.Test.YtpfpmjdifnoeoaaF95
import Derived.Test.YtpfpmjdifnoeoaaF96
namespace Go.Proofs.Ytpfpmjdifnoeoaa.Pure
set_option linter.unusedVariables false
set_option linter.unusedSimpArgs false
open Go.RowKit Go.Proofs.Ytpfpmjdifnoeoaa.F Go.Proofs.YtpfpmjdifnoeoaaW.PrintWords Go.Proofs.YtpfpmjdifnoeoaaW.PrintLast

/-! ### Leaves -/
theorem leaf_of {t : ByteArray} (h : leafF t = t.size) (h0 : 0 < t.size) : Leaf t := ⟨by omega, h⟩
theorem Leaf.right {t : ByteArray} (h : Leaf t) (hs : t.size ≤ 20000) : rightB t = true := (right_iff t).mpr ⟨h.tm.1, hs⟩
theorem num_leaf (n : Int) : Leaf (numF n) := by
  have b0 : bt (numF n) 0 = 117 := rfl
  have hz : (numF n).size = 9 := rfl
  exact leaf_of (by unfold leafF; rw [b0, hz]; rfl) (by omega)
theorem name_leaf (n : Int) : Leaf (nameF n) := by
  have b0 : bt (nameF n) 0 = 110 := rfl
  have hz : (nameF n).size = 9 := rfl
  exact leaf_of (by unfold leafF; rw [b0, hz]; rfl) (by omega)
theorem name_size (n : Int) : (nameF n).size = 9 := rfl
theorem gen_leaf : Leaf ⟨#[103]⟩ := leaf_of (by unfold leafF; rfl) (by decide)
theorem priv_ok {p : Int} (h1 : 1 ≤ p) (h2 : p ≤ 8) : privF p = (⟨#[105, UInt8.ofNat p.toNat]⟩, 0) ∧ Leaf ⟨#[105, UInt8.ofNat p.toNat]⟩ := by
  have e : strOfNums [105, p] = ⟨#[105, UInt8.ofNat p.toNat]⟩ := rfl
  refine ⟨by unfold privF; rw [if_pos ⟨h1, h2⟩, e], ?_⟩
  have b0 : bt ⟨#[105, UInt8.ofNat p.toNat]⟩ 0 = 105 := rfl
  have b1 : bt ⟨#[105, UInt8.ofNat p.toNat]⟩ 1 = p := by
    have h4 : bt (⟨#[105, UInt8.ofNat p.toNat]⟩ : ByteArray) 1 = ((UInt8.ofNat p.toNat).toNat : Int) := rfl
    rw [h4, UInt8.toNat_ofNat_of_lt' (by show p.toNat < 256; omega)]
    omega
  have hz : (⟨#[105, UInt8.ofNat p.toNat]⟩ : ByteArray).size = 2 := rfl
  refine leaf_of ?_ (by omega)
  unfold leafF
  rw [b0, b1, hz]
  simp only [show ¬ ((105 : Int) = 103) from by decide, show ¬ ((105 : Int) = 110 ∨ (105 : Int) = 117) from by decide, if_false, if_true]
  rw [if_pos ⟨by omega, h1, h2⟩]
  rfl
theorem text_bytes (s : ByteArray) (h : s.size ≤ 100) : bt (strOfNums [116, 0, s.size] ++ s) 0 = 116 ∧ bt (strOfNums [116, 0, s.size] ++ s) 1 = 0 ∧ bt (strOfNums [116, 0, s.size] ++ s) 2 = s.size ∧ (strOfNums [116, 0, s.size] ++ s).size = 3 + s.size := by
  have hz : (strOfNums [116, 0, (s.size : Int)]).size = 3 := rfl
  refine ⟨bt_left _ s 0 (by omega), bt_left _ s 1 (by omega), (bt_left _ s 2 (by omega)).trans ?_, by rw [ByteArray.size_append, hz]⟩
  have h4 : bt (strOfNums [116, 0, (s.size : Int)]) ((2 : Nat) : Int) = ((UInt8.ofNat ((s.size : Int)).toNat).toNat : Int) := rfl
  rw [h4, UInt8.toNat_ofNat_of_lt' (by show ((s.size : Int)).toNat < 256; omega)]
  omega
theorem text_ok {s : ByteArray} (h : s.size ≤ 100) : textF s = (strOfNums [116, 0, s.size] ++ s, 0) ∧ Leaf (strOfNums [116, 0, s.size] ++ s) := by
  refine ⟨by unfold textF; rw [if_neg (by omega)], ?_⟩
  obtain ⟨b0, b1, b2, hz⟩ := text_bytes s h
  refine leaf_of ?_ (by omega)
  unfold leafF
  rw [b0, b1, b2, hz]
  simp only [show ¬ ((116 : Int) = 103) from by decide, show ¬ ((116 : Int) = 110 ∨ (116 : Int) = 117) from by decide, show ¬ ((116 : Int) = 105) from by decide, if_false, if_true]
  rw [if_pos ⟨by omega, trivial, by omega, by omega⟩]
  omega

/-! ### What is put together -/
theorem mem2 {P : ByteArray → Prop} {a b : ByteArray} (ha : P a) (hb : P b) : ∀ x ∈ [a, b], P x := by
  intro x hx
  rcases List.mem_cons.mp hx with rfl | hx
  · exact ha
  · rw [List.mem_singleton.mp hx]; exact hb
theorem mem3 {P : ByteArray → Prop} {a b c : ByteArray} (ha : P a) (hb : P b) (hc : P c) : ∀ x ∈ [a, b, c], P x := by
  intro x hx
  rcases List.mem_cons.mp hx with rfl | hx
  · exact ha
  · exact mem2 hb hc x hx
theorem mem1 {P : ByteArray → Prop} {a : ByteArray} (ha : P a) : ∀ x ∈ [a], P x := by
  intro x hx
  rw [List.mem_singleton.mp hx]; exact ha
/-- A right term that is not too deep to be a part. -/
structure Part (m : Int) (t : ByteArray) : Prop where
  right : rightB t = true
  dep : depF t ≤ m
theorem Part.tm {m : Int} {t : ByteArray} (h : Part m t) : Tm t := ((right_iff t).mp h.right).1
theorem Part.size {m : Int} {t : ByteArray} (h : Part m t) : t.size ≤ 20000 := ((right_iff t).mp h.right).2
theorem Part.mono {m n : Int} {t : ByteArray} (h : Part m t) (hmn : m ≤ n) : Part n t := ⟨h.right, by have := h.dep; omega⟩
theorem Leaf.part {t : ByteArray} (h : Leaf t) (hs : t.size ≤ 20000) {m : Int} (hm : 1 ≤ m) : Part m t := ⟨h.right hs, by rw [h.tm.2]; exact hm⟩
/-- What is put together of right parts is as it should be, if it is not too long. -/
theorem node_made {m : Int} (hm : m ≤ 399) {h : ByteArray} {ts : List ByteArray} {pow : Bool} (hh : HeadOf h ts pow) (hp : ∀ x ∈ ts, Part m x) (hr : pow = true → Rises ⟨#[]⟩ ts) (h0 : 0 ≤ m) :
    Node (h ++ cat ts) h ts pow ∧ depF (h ++ cat ts) ≤ m + 1 := by
  have n : Node (h ++ cat ts) h ts pow := ⟨rfl, hh, fun x hx => ⟨(hp x hx).tm, by have := (hp x hx).dep; omega⟩, hr⟩
  refine ⟨n, ?_⟩
  rw [n.tm.2]
  have := deepest_le (m := m) (dep := 0) (ts := ts) (fun t ht => (hp t ht).dep) h0
  omega
theorem ofF_made {m : Int} (hm : m ≤ 399) (h0 : 0 ≤ m) {h : ByteArray} {ts : List ByteArray} (hh : HeadOf h ts false) (hp : ∀ x ∈ ts, Part m x) :
    ofF h ts = (if 20000 < (h ++ cat ts).size then (⟨#[]⟩, 3) else (h ++ cat ts, 0)) ∧ ((h ++ cat ts).size ≤ 20000 → Part (m + 1) (h ++ cat ts)) := by
  obtain ⟨n, hd⟩ := node_made hm hh hp (fun h => absurd h (by simp)) h0
  rw [ofF_ok (fun x hx => (hp x hx).right)]
  refine ⟨?_, fun hs => ⟨node_right n hs, hd⟩⟩
  unfold wholeF
  split
  · rfl
  · rw [if_pos (node_right n (by omega))]
theorem cat1 (a : ByteArray) : cat [a] = a := by simp only [cat]; exact app_nil a
theorem cat2 (a b : ByteArray) : cat [a, b] = a ++ b := by rw [cat, cat1]
theorem cat3 (a b c : ByteArray) : cat [a, b, c] = a ++ (b ++ c) := by rw [cat, cat2]
theorem pair_made {m : Int} (hm : m ≤ 399) (h0 : 0 ≤ m) {a b : ByteArray} (ha : Part m a) (hb : Part m b) (hs : a.size + b.size < 20000) : pairF a b = ((⟨#[112]⟩ : ByteArray) ++ cat [a, b], 0) ∧ Part (m + 1) ((⟨#[112]⟩ : ByteArray) ++ cat [a, b]) := by
  have hz : ((⟨#[112]⟩ : ByteArray) ++ cat [a, b]).size = 1 + (a.size + b.size) := by rw [cat2, ByteArray.size_append, ByteArray.size_append]; rfl
  have := ofF_made hm h0 (HeadOf.pair a b) (mem2 ha hb)
  exact ⟨by unfold pairF; rw [this.1, if_neg (by omega)], this.2 (by omega)⟩
theorem sign_made {m : Int} (hm : m ≤ 399) (h0 : 0 ≤ m) {a b : ByteArray} (ha : Part m a) (hb : Part m b) (hs : a.size + b.size < 20000) : signF a b = ((⟨#[120]⟩ : ByteArray) ++ cat [a, b], 0) ∧ Part (m + 1) ((⟨#[120]⟩ : ByteArray) ++ cat [a, b]) := by
  have hz : ((⟨#[120]⟩ : ByteArray) ++ cat [a, b]).size = 1 + (a.size + b.size) := by rw [cat2, ByteArray.size_append, ByteArray.size_append]; rfl
  have := ofF_made hm h0 (HeadOf.sign a b) (mem2 ha hb)
  exact ⟨by unfold signF; rw [this.1, if_neg (by omega)], this.2 (by omega)⟩
theorem hash_made {m : Int} (hm : m ≤ 399) (h0 : 0 ≤ m) {a : ByteArray} (ha : Part m a) (hs : a.size < 20000) : hashF a = ((⟨#[104]⟩ : ByteArray) ++ cat [a], 0) ∧ Part (m + 1) ((⟨#[104]⟩ : ByteArray) ++ cat [a]) := by
  have hz : ((⟨#[104]⟩ : ByteArray) ++ cat [a]).size = 1 + a.size := by rw [cat1, ByteArray.size_append]; rfl
  have := ofF_made hm h0 (HeadOf.hash a) (mem1 ha)
  exact ⟨by unfold hashF; rw [this.1, if_neg (by omega)], this.2 (by omega)⟩
theorem seal_made {m : Int} (hm : m ≤ 399) (h0 : 0 ≤ m) {a b c : ByteArray} (ha : Part m a) (hb : Part m b) (hc : Part m c) (hs : a.size + b.size + c.size < 20000) : sealF a b c = ((⟨#[115]⟩ : ByteArray) ++ cat [a, b, c], 0) ∧ Part (m + 1) ((⟨#[115]⟩ : ByteArray) ++ cat [a, b, c]) := by
  have hz : ((⟨#[115]⟩ : ByteArray) ++ cat [a, b, c]).size = 1 + (a.size + (b.size + c.size)) := by rw [cat3, ByteArray.size_append, ByteArray.size_append, ByteArray.size_append]; rfl
  have := ofF_made hm h0 (HeadOf.sealed a b c) (mem3 ha hb hc)
  exact ⟨by unfold sealF; rw [this.1, if_neg (by omega)], this.2 (by omega)⟩
theorem key_made {m : Int} (hm : m ≤ 399) (h0 : 0 ≤ m) {a : ByteArray} (ha : Part m a) (hr : (keyF a).2 = 0) : (keyF a).1 = (⟨#[107]⟩ : ByteArray) ++ cat [a] ∧ Part (m + 1) ((⟨#[107]⟩ : ByteArray) ++ cat [a]) ∧ elemB a = true := by
  unfold keyF at hr ⊢
  by_cases c : elemB a = true
  · rw [if_pos c] at hr ⊢
    have hb : bt a 0 = 103 ∨ bt a 0 = 101 := by
      unfold elemB at c
      rw [Bool.and_eq_true, Bool.or_eq_true, beq_iff_eq, beq_iff_eq] at c
      exact c.2
    obtain ⟨n, hd⟩ := node_made hm (HeadOf.key a hb) (mem1 ha) (fun h => absurd h (by simp)) h0
    have hw := whole_ok hr
    rw [cat1] at n hd ⊢
    exact ⟨hw.1, ⟨hw.2.1, hd⟩, c⟩
  · rw [if_neg c] at hr; exact absurd hr (by decide)
/-- The exponents of a right element stand less deep than it. -/
theorem exps_part {m : Int} {a : ByteArray} (ha : elemB a = true) (hp : Part m a) : ∀ x ∈ expsF a, Part (m - 1) x := by
  intro x hx
  have hc := elem_cases ha
  have hx2 := hc.2.2.1 x hx
  refine ⟨(right_iff x).mpr ⟨hx2.1, hx2.2.2⟩, ?_⟩
  have hne : expsF a ≠ [] := fun q => by rw [q] at hx; simp at hx
  have n := elmOf_node hne hc.2.1 (fun y hy => ⟨(hc.2.2.1 y hy).1, (hc.2.2.1 y hy).2.1⟩)
  rw [← hc.1] at n
  have h1 := n.tm.2
  have h2 := (le_deepest (dep := 0) (ts := sortB (expsF a))).2 x ((sortB_perm _).mem_iff.mpr hx)
  have h3 := hp.dep
  omega
theorem pow_made {m : Int} (hm : m ≤ 399) (h0 : 0 ≤ m) {a b : ByteArray} (ha : Part m a) (hb : Part m b) (hr : (powF a b).2 = 0) :
    elemB a = true ∧ (expsF a).length < 32 ∧ (powF a b).1 = elmOf (expsF a ++ [b]) ∧ Part (m + 1) (elmOf (expsF a ++ [b])) := by
  by_cases c : elemB a = true
  · rw [pow_eq c hb.right] at hr ⊢
    by_cases d : 32 < (expsF a).length + 1
    · rw [if_pos d] at hr; exact absurd hr (by decide)
    · rw [if_neg d] at hr ⊢
      have hw := whole_ok hr
      have hpart : ∀ x ∈ expsF a ++ [b], Part m x := by
        intro x hx
        rcases List.mem_append.mp hx with q | q
        · exact (exps_part c ha x q).mono (by omega)
        · rw [List.mem_singleton.mp q]; exact hb
      have n := elmOf_node (l := expsF a ++ [b]) (by simp) (by rw [List.length_append]; simp; omega) (fun x hx => ⟨(hpart x hx).tm, by have := (hpart x hx).dep; omega⟩)
      refine ⟨c, by omega, hw.1, ⟨hw.2.1, ?_⟩⟩
      rw [n.tm.2]
      have := deepest_le (m := m) (dep := 0) (ts := sortB (expsF a ++ [b])) (fun t ht => (hpart t ((sortB_perm _).mem_iff.mp ht)).dep) h0
      omega
  · unfold powF at hr
    rw [if_neg c] at hr; exact absurd hr (by decide)

/-! ### Raw numbers -/
def absF (c : Int) : Int := if c < 0 then -(c + 1) else c
def pickF (c n : Int) : Int := absF c % n
theorem pickF_range (c : Int) {n : Int} (h : 0 < n) : 0 ≤ pickF c n ∧ pickF c n < n := ⟨Int.emod_nonneg _ (by omega), Int.emod_lt_of_pos _ h⟩
theorem absF_range {c : Int} (h : -9223372036854775808 ≤ c ∧ c ≤ 9223372036854775807) : 0 ≤ absF c ∧ absF c ≤ 9223372036854775807 := by unfold absF; split <;> omega
def ab (j : Int) : ByteArray := (⟨#[97, 98]⟩ : ByteArray).extract 0 j.toNat
/-- A term of a raw number. -/
def nameT (n : Int) : ByteArray :=
  if absF n % 6 = 0 ∨ absF n % 6 = 1 then nameF (absF n / 6 % 5) else if absF n % 6 = 2 then numF (absF n / 6 % 5) else if absF n % 6 = 3 then (privF (1 + absF n / 6 % 5)).1
  else if absF n % 6 = 4 then (textF (ab (absF n / 6 % 5 % 3))).1 else ⟨#[103]⟩
theorem ab_size (j : Int) : (ab j).size ≤ 2 := by
  unfold ab
  rw [ByteArray.size_extract]
  show min _ 2 - 0 ≤ 2
  omega
theorem nameT_leaf (n : Int) : Leaf (nameT n) ∧ (nameT n).size ≤ 9 := by
  unfold nameT
  have h5 : 0 ≤ absF n / 6 % 5 ∧ absF n / 6 % 5 < 5 := ⟨Int.emod_nonneg _ (by omega), Int.emod_lt_of_pos _ (by omega)⟩
  split
  · exact ⟨name_leaf _, Nat.le_refl _⟩
  split
  · exact ⟨num_leaf _, Nat.le_refl _⟩
  split
  · have := priv_ok (p := 1 + absF n / 6 % 5) (by omega) (by omega)
    rw [this.1]
    exact ⟨this.2, by show 2 ≤ 9; omega⟩
  split
  · have hs := ab_size (absF n / 6 % 5 % 3)
    have := text_ok (s := ab (absF n / 6 % 5 % 3)) (by omega)
    rw [this.1]
    exact ⟨this.2, by rw [(text_bytes _ (by omega)).2.2.2]; omega⟩
  · exact ⟨gen_leaf, by show 1 ≤ 9; omega⟩
def atF (l : List ByteArray) (i : Int) : ByteArray := rdOf ByteArray.empty l i
/-- What a step makes, or what is wrong. -/
def resT (out : List ByteArray) (x : Int × Int × Int × Int) : ByteArray × Int :=
  let a := atF out (pickF x.2.1 out.length); let b := atF out (pickF x.2.2.1 out.length); let c := atF out (pickF x.2.2.2 out.length)
  if pickF x.1 10 = 1 ∨ pickF x.1 10 = 2 ∨ pickF x.1 10 = 3 then powF a b else if pickF x.1 10 = 4 then keyF a else if pickF x.1 10 = 5 ∨ pickF x.1 10 = 6 then pairF a b
  else if pickF x.1 10 = 7 then hashF a else if pickF x.1 10 = 8 then sealF a b c else if pickF x.1 10 = 9 then signF a b else (nameT x.2.1, 0)
def pickT (r : ByteArray × Int) (b : Int) : ByteArray := if r.2 = 0 ∧ r.1.size ≤ 600 then r.1 else nameT b
def mstepT (out : List ByteArray) (x : Int × Int × Int × Int) : List ByteArray := out ++ [pickT (resT out x) x.2.2.1]
def madeT (l : List (Int × Int × Int × Int)) : List ByteArray := (l.take 40).foldl mstepT [⟨#[103]⟩, nameT 1]
/-- What holds of terms that are made: right, short, no deeper than they are many. -/
structure MadeOk (out : List ByteArray) : Prop where
  two : 2 ≤ out.length
  small : ∀ t ∈ out, t.size ≤ 600
  part : ∀ t ∈ out, Part out.length t
theorem atF_mem {l : List ByteArray} {i : Int} (h0 : 0 ≤ i) (h : i < l.length) : atF l i ∈ l := by
  unfold atF rdOf
  rw [List.getD_eq_getElem?_getD, List.getElem?_eq_getElem (by omega)]
  exact List.getElem_mem _
theorem mstepT_ok {out : List ByteArray} (h : MadeOk out) (hl : out.length ≤ 100) (x : Int × Int × Int × Int) : MadeOk (mstepT out x) := by
  have h2 := h.two
  have hpos : (0 : Int) < (out.length : Int) := by omega
  have hm : ∀ c : Int, atF out (pickF c out.length) ∈ out := fun c => atF_mem (pickF_range c hpos).1 (pickF_range c hpos).2
  have hnew : (pickT (resT out x) x.2.2.1).size ≤ 600 ∧ Part (out.length + 1) (pickT (resT out x) x.2.2.1) := by
    unfold pickT
    split
    case isFalse =>
      have := nameT_leaf x.2.2.1
      exact ⟨by omega, this.1.part (by omega) (by omega)⟩
    rename_i hr
    refine ⟨hr.2, ?_⟩
    have hr := hr.1
    obtain ⟨a, ha⟩ : ∃ a, a = atF out (pickF x.2.1 out.length) := ⟨_, rfl⟩
    obtain ⟨b, hb⟩ : ∃ b, b = atF out (pickF x.2.2.1 out.length) := ⟨_, rfl⟩
    obtain ⟨c, hc⟩ : ∃ c, c = atF out (pickF x.2.2.2 out.length) := ⟨_, rfl⟩
    have ma := hm x.2.1
    have mb := hm x.2.2.1
    have mc := hm x.2.2.2
    unfold resT at hr ⊢
    simp only at hr ⊢
    rw [← ha] at ma hr ⊢
    rw [← hb] at mb hr ⊢
    rw [← hc] at mc hr ⊢
    have sa := h.small a ma
    have sb := h.small b mb
    have sc := h.small c mc
    have pa := h.part a ma
    have pb := h.part b mb
    have pc := h.part c mc
    split at hr
    · rename_i q
      rw [if_pos q]
      have := pow_made (by omega) (by omega) pa pb hr
      rw [this.2.2.1]; exact this.2.2.2
    rename_i q1
    rw [if_neg q1]
    split at hr
    · rename_i q
      rw [if_pos q]
      have := key_made (by omega) (by omega) pa hr
      rw [this.1]; exact this.2.1
    rename_i q2
    rw [if_neg q2]
    split
    · have := pair_made (by omega) (by omega) pa pb (by omega)
      rw [this.1]; exact this.2
    split
    · have := hash_made (by omega) (by omega) pa (by omega)
      rw [this.1]; exact this.2
    split
    · have := seal_made (by omega) (by omega) pa pb pc (by omega)
      rw [this.1]; exact this.2
    split
    · have := sign_made (by omega) (by omega) pa pb (by omega)
      rw [this.1]; exact this.2
    · have := nameT_leaf x.2.1
      exact this.1.part (by omega) (by omega)
  unfold mstepT
  refine ⟨by rw [List.length_append]; omega, ?_, ?_⟩
  · intro t ht
    rcases List.mem_append.mp ht with q | q
    · exact h.small t q
    · rw [List.mem_singleton.mp q]; exact hnew.1
  · intro t ht
    rw [List.length_append]
    rcases List.mem_append.mp ht with q | q
    · exact (h.part t q).mono (by simp; omega)
    · rw [List.mem_singleton.mp q]
      exact hnew.2.mono (by simp)
theorem fold_ok : ∀ (l : List (Int × Int × Int × Int)) (out : List ByteArray), MadeOk out → out.length + l.length ≤ 100 → MadeOk (l.foldl mstepT out) ∧ (l.foldl mstepT out).length = out.length + l.length
  | [], out, h, _ => ⟨h, rfl⟩
  | x :: l, out, h, hl => by
    rw [List.length_cons] at hl
    have h1 := mstepT_ok h (by omega) x
    have h2 : (mstepT out x).length = out.length + 1 := by unfold mstepT; rw [List.length_append]; rfl
    have := fold_ok l (mstepT out x) h1 (by omega)
    rw [List.foldl_cons, List.length_cons]
    exact ⟨this.1, by omega⟩
theorem made_start : MadeOk [⟨#[103]⟩, nameT 1] := by
  have h1 := nameT_leaf 1
  refine ⟨Nat.le_refl _, mem2 (by decide) (by omega), mem2 (gen_leaf.part (by decide) (by decide)) (h1.1.part (by omega) (by decide))⟩
theorem madeT_ok (l : List (Int × Int × Int × Int)) : MadeOk (madeT l) ∧ (madeT l).length ≤ 42 := by
  have := fold_ok (l.take 40) _ made_start (by rw [List.length_take]; show 2 + _ ≤ _; omega)
  refine ⟨this.1, ?_⟩
  have h2 := this.2
  rw [List.length_take] at h2
  unfold madeT
  rw [h2]
  show 2 + _ ≤ _
  omega
theorem MadeOk.at_ {out : List ByteArray} (h : MadeOk out) (hl : out.length ≤ 42) (c : Int) : Part 42 (atF out (pickF c out.length)) ∧ (atF out (pickF c out.length)).size ≤ 600 := by
  have h2 := h.two
  have hpos : (0 : Int) < (out.length : Int) := by omega
  have hm : atF out (pickF c out.length) ∈ out := atF_mem (pickF_range c hpos).1 (pickF_range c hpos).2
  exact ⟨(h.part _ hm).mono (by omega), h.small _ hm⟩
end Go.Proofs.Ytpfpmjdifnoeoaa.Pure
