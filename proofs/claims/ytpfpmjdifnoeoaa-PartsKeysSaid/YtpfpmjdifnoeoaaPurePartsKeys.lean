/- The pure side of PartsKeys: a seal is opened by its key alone; a signature is one process's alone. -/
import Derived.Test.YtpfpmjdifnoeoaaLLaw2
import Derived.Test.YtpfpmjdifnoeoaaB3
import Derived.Test.YtpfpmjdifnoeoaaF28
namespace Go.Proofs.Ytpfpmjdifnoeoaa.Pure
set_option linter.unusedVariables false
set_option linter.unusedSimpArgs false
open Go.RowKit Go.Proofs.Ytpfpmjdifnoeoaa.F Go.Proofs.YtpfpmjdifnoeoaaW.PrintWords Go.Proofs.YtpfpmjdifnoeoaaW.PrintLast Go.Proofs.YtpfpmjdifnoeoaaW.PrintMore

theorem priv_other {p q : Int} (hp : 1 ≤ p ∧ p ≤ 8) (hq : 1 ≤ q ∧ q ≤ 8) (h : (privF p).1 = (privF q).1) : p = q := by
  rw [(priv_ok hp.1 hp.2).1, (priv_ok hq.1 hq.2).1] at h
  have h1 := congrArg (fun b => bt b 1) h
  have e : ∀ z : Int, 1 ≤ z → z ≤ 8 → bt (⟨#[105, UInt8.ofNat z.toNat]⟩ : ByteArray) 1 = z := by
    intro z h1 h2
    obtain ⟨n, rfl⟩ := Int.eq_ofNat_of_zero_le (show 0 ≤ z by omega)
    have : n < 256 := by omega
    show ((UInt8.ofNat n).toNat : Int) = n
    rw [UInt8.toNat_ofNat']
    omega
  simp only at h1
  rw [e p hp.1 hp.2, e q hq.1 hq.2] at h1
  exact h1
theorem keysL1 {X a key : ByteArray} {a4 q0 : Int} (hq : gemotlaw2_pick.f a4 8 = some (q0 - 1)) (q1 : 1 ≤ q0) (q2 : q0 ≤ 8) (hk : privF q0 = (key, 0))
    (hc : ∀ n, parts_Check.f X n = some (if (privF n).2 = 0 ∧ key = (privF n).1 then (a, 0) else (⟨#[]⟩, 6))) : ∀ (d k : Nat) (x24 x25 : Int), 0 ≤ x25 → x25 + d = 10 → d < k → 0 ≤ x24 → x24 ≤ x25 →
      gemotlaw2_PartsKeys.l1 k a4 a X x24 x25 = some ((x24 + if x25 ≤ q0 then 1 else 0) == 1)
  | 0, k, x24, x25, h0, h1, hd, h2, h3 => by
    obtain ⟨k, rfl⟩ : ∃ m, k = m + 1 := ⟨k - 1, by omega⟩
    simp only [gemotlaw2_PartsKeys.l1]
    rw [if_neg (by omega), if_neg (by omega), Int.add_zero]
  | d + 1, k, x24, x25, h0, h1, hd, h2, h3 => by
    obtain ⟨k, rfl⟩ : ∃ m, k = m + 1 := ⟨k - 1, by omega⟩
    have hw1 : wrap64 (x25 + 1) = x25 + 1 := by unfold wrap64; omega
    have hw2 : wrap64 (x24 + 1) = x24 + 1 := by unfold wrap64; omega
    have hw3 : wrap64 (1 + (q0 - 1)) = q0 := by unfold wrap64; omega
    simp only [gemotlaw2_PartsKeys.l1]
    rw [if_pos (by omega), hc x25]
    simp only [Option.bind_some]
    by_cases c : x25 = q0
    · rw [if_pos (c := (privF x25).2 = 0 ∧ key = (privF x25).1) ⟨by rw [c, hk], by rw [c, hk]⟩]
      simp only [if_true]
      rw [hq]
      simp only [Option.bind_some]
      rw [hw3, if_pos c, hw1, hw2]
      rw [keysL1 hq q1 q2 hk hc d k (x24 + 1) (x25 + 1) (by omega) (by omega) (by omega) (by omega) (by omega), if_neg (by omega), if_pos (by omega), Int.add_zero]
    · have hn : ¬ ((privF x25).2 = 0 ∧ key = (privF x25).1) := by
        rintro ⟨h5, h6⟩
        by_cases r : 1 ≤ x25 ∧ x25 ≤ 8
        · exact c (priv_other r ⟨q1, q2⟩ (by rw [hk]; exact h6.symm))
        · unfold privF at h5
          rw [if_neg r] at h5
          exact absurd h5 (by decide)
      rw [if_neg hn]
      simp only
      rw [if_neg (by decide), hw1, keysL1 hq q1 q2 hk hc d k x24 (x25 + 1) (by omega) (by omega) (by omega) h2 (by omega)]
      by_cases e : x25 ≤ q0
      · rw [if_pos (by omega), if_pos e]
      · rw [if_neg (by omega), if_neg e]
theorem keysL0 {S X a : ByteArray} {a4 : Int} {out : List ByteArray} (hl : out.length ≤ 42) (ho : ∀ y, (parts_Open.f S y).map (fun r => r.2.2 == 0) = some (decide (a = y)))
    {R : Option Bool} (hR : ∀ k, 11 ≤ k → gemotlaw2_PartsKeys.l1 k a4 a X 0 0 = R) : ∀ (d k : Nat) (i : Int), 0 ≤ i → i + d = out.length → d + 12 ≤ k → gemotlaw2_PartsKeys.l0 k a4 out a S X i = R
  | 0, k, i, h0, h1, hk => by
    obtain ⟨k, rfl⟩ : ∃ m, k = m + 1 := ⟨k - 1, by omega⟩
    simp only [gemotlaw2_PartsKeys.l0]
    rw [if_neg (by omega)]
    exact hR k (by omega)
  | d + 1, k, i, h0, h1, hk => by
    obtain ⟨k, rfl⟩ : ∃ m, k = m + 1 := ⟨k - 1, by omega⟩
    have hw : wrap64 (i + 1) = i + 1 := by unfold wrap64; omega
    simp only [gemotlaw2_PartsKeys.l0]
    rw [if_pos (by omega), if_pos h0]
    obtain ⟨⟨r1, r2, r3⟩, hr⟩ : ∃ r, parts_Open.f S (rdOf ByteArray.empty out i) = some r := by
      have := ho (rdOf ByteArray.empty out i)
      cases h : parts_Open.f S (rdOf ByteArray.empty out i) with
      | none => rw [h] at this; cases this
      | some r => exact ⟨r, rfl⟩
    have h2 := ho (rdOf ByteArray.empty out i)
    rw [hr] at h2 ⊢
    simp only [Option.map_some, Option.some.injEq] at h2
    simp only [Option.bind_some]
    have h3 : ((rdOf ByteArray.empty out i).toList == a.toList) = decide (a = rdOf ByteArray.empty out i) := by
      by_cases c : a = rdOf ByteArray.empty out i
      · rw [← c]; simp
      · rw [decide_eq_false c, beq_eq_false_iff_ne]
        exact fun h => c (tl_eq.mp h).symm
    rw [h2, h3, if_neg (by simp), hw]
    exact keysL0 hl ho hR d k (i + 1) (by omega) (by omega) (by omega)
theorem PartsKeys : ∀ (l0 : List (S171)) (a1 : Int) (a2 : Int) (a3 : Int) (a4 : Int), (l0.length ≤ 9223372036854775807 ∧ ∀ y ∈ l0, (Lit.int .i64 y.f0).wf = true ∧ (Lit.int .i64 y.f1).wf = true ∧ (Lit.int .i64 y.f2).wf = true ∧ (Lit.int .i64 y.f3).wf = true) → ((Lit.int .i64 a1).wf = true) → ((Lit.int .i64 a2).wf = true) → ((Lit.int .i64 a3).wf = true) → ((Lit.int .i64 a4).wf = true) → ∃ k, gemotlaw2_PartsKeys.f k l0 a1 a2 a3 a4 = some true := by
  intro l0 a1 a2 a3 a4 hl h1 h2 h3 h4
  obtain ⟨K, hK⟩ : ∃ K : Nat, K = 99 := ⟨_, rfl⟩
  refine ⟨K + 1, ?_⟩
  obtain ⟨out, ho, hm, hlen⟩ := made2 l0 hl.2
  unfold gemotlaw2_PartsKeys.f gemotlaw2_shown.f
  have h20 := hm.two
  have hpos : (0 : Int) < (out.length : Int) := by omega
  have r1 := pickF_range a1 hpos
  have r2 := pickF_range a2 hpos
  have r3 := pickF_range a3 hpos
  have r4 := pickF_range a4 (n := 8) (by decide)
  have ha := hm.at_ hlen a1
  have hb := hm.at_ hlen a2
  have hc := hm.at_ hlen a3
  have hpk := pick2 h4 (n := 8) (by decide) (by decide)
  rw [Option.bind_some, if_pos rfl, ho, Option.bind_some, pick2 h1 hpos (by omega), Option.bind_some, if_pos r1.1, if_pos r1.2, pick2 h2 hpos (by omega), Option.bind_some, if_pos r2.1, if_pos r2.2, pick2 h3 hpos (by omega), Option.bind_some, if_pos r3.1, if_pos r3.2]
  rw [show rdOf ByteArray.empty out (pickF a1 out.length) = atF out (pickF a1 out.length) from rfl, show rdOf ByteArray.empty out (pickF a2 out.length) = atF out (pickF a2 out.length) from rfl, show rdOf ByteArray.empty out (pickF a3 out.length) = atF out (pickF a3 out.length) from rfl]
  generalize atF out (pickF a1 out.length) = a at ha ⊢
  generalize atF out (pickF a2 out.length) = b at hb ⊢
  generalize atF out (pickF a3 out.length) = c at hc ⊢
  rw [hpk]
  generalize pickF a4 8 = p at r4 hpk ⊢
  have sa := ha.2
  have sb := hb.2
  have sc := hc.2
  have hq : wrap64 (1 + p) = 1 + p := by unfold wrap64; omega
  simp only [Option.bind_some]
  rw [hq]
  obtain ⟨q, hq0⟩ : ∃ q, q = 1 + p := ⟨_, rfl⟩
  rw [← hq0]
  obtain rfl : p = q - 1 := by omega
  have q1 : 1 ≤ q := by omega
  have q2 : q ≤ 8 := by omega
  have hp := priv_ok q1 q2
  have hk : Part 42 (⟨#[105, UInt8.ofNat q.toNat]⟩ : ByteArray) := hp.2.part (by show 2 ≤ _; omega) (by omega)
  have ks : (⟨#[105, UInt8.ofNat q.toNat]⟩ : ByteArray).size = 2 := rfl
  generalize (⟨#[105, UInt8.ofNat q.toNat]⟩ : ByteArray) = key at hp hk ks
  have x3 := seal_made (by decide) (by decide) ha.1 hb.1 hc.1 (by omega)
  have x4 := sign_made (by decide) (by decide) hk ha.1 (by omega)
  have f3 : term_Seal.f a b c = some (sealF a b c) := by unfold term_Seal.f; exact if_pos ⟨by omega, by omega, by omega⟩
  have f4 : term_Sign.f key a = some (signF key a) := by unfold term_Sign.f; exact if_pos ⟨by omega, by omega⟩
  have f5 : term_Private.f q = some (key, 0) := by unfold term_Private.f; rw [hp.1]
  have m : ∀ {t : ByteArray}, Part 42 t → Part 399 t := fun h => h.mono (by decide)
  have y3 := kids_sealM (m ha.1) (m hb.1) (m hc.1) (by omega)
  have y4 := kids_signM (m hk) (m ha.1) (by omega)
  have z3 : ((⟨#[115]⟩ : ByteArray) ++ cat [a, b, c]).size ≤ 20000 := ((right_iff _).mp y3.1).2
  have z4 : ((⟨#[120]⟩ : ByteArray) ++ cat [key, a]).size ≤ 20000 := ((right_iff _).mp y4.1).2
  rw [f3, f5, x3.1]
  simp only [Option.bind_some]
  rw [f4, x4.1]
  simp only [Option.bind_some, if_true]
  generalize (⟨#[115]⟩ : ByteArray) ++ cat [a, b, c] = S at y3 z3 ⊢
  generalize (⟨#[120]⟩ : ByteArray) ++ cat [key, a] = X at y4 z4 ⊢
  have o1 : ∀ y, (parts_Open.f S y).map (fun r => r.2.2 == 0) = some (decide (a = y)) := by
    intro y
    unfold parts_Open.f openP
    rw [if_pos (by omega), if_pos y3.2.2.2, y3.2.2.1, show rdOf ByteArray.empty [a, b, c] 0 = a from rfl]
    by_cases e : a = y
    · rw [if_pos e, decide_eq_true e]; rfl
    · rw [if_neg e, decide_eq_false e]; rfl
  have o2 : ∀ n, parts_Check.f X n = some (if (privF n).2 = 0 ∧ key = (privF n).1 then (a, 0) else (⟨#[]⟩, 6)) := by
    intro n
    unfold parts_Check.f checkP
    rw [if_pos (by omega), if_pos y4.2.2.2, y4.2.2.1]
    rfl
  rw [show ((0 : Int) != 0) = false from rfl]
  simp only [gemotlaw2_PartsKeys.j0]
  rw [if_neg (by decide)]
  rw [keysL0 hlen o1 (R := some true) (fun k hk => ?_) out.length K 0 (Int.le_refl _) (by omega) (by omega)]
  rw [keysL1 hpk q1 q2 hp.1 o2 10 k 0 0 (by decide) (by decide) (by omega) (by decide) (by decide), if_pos (by omega)]
  rfl
end Go.Proofs.Ytpfpmjdifnoeoaa.Pure
