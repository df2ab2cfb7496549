/- The pure side of PartsBack: what was put together is taken apart as it was. -/
import Derived.Test.YtpfpmjdifnoeoaaLLaw2
import Derived.Test.YtpfpmjdifnoeoaaB3
import Derived.Test.YtpfpmjdifnoeoaaF26
namespace Go.Proofs.Ytpfpmjdifnoeoaa.Pure
set_option linter.unusedVariables false
set_option linter.unusedSimpArgs false
open Go.RowKit Go.Proofs.Ytpfpmjdifnoeoaa.F Go.Proofs.YtpfpmjdifnoeoaaW.PrintWords Go.Proofs.YtpfpmjdifnoeoaaW.PrintLast Go.Proofs.YtpfpmjdifnoeoaaW.PrintMore

theorem priv_other {p q : Int} (hp : 1 ≤ p ∧ p ≤ 8) (hq : 1 ≤ q ∧ q ≤ 8) (h : (privF p).1 = (privF q).1) : p = q := by
  rw [(priv_ok hp.1 hp.2).1, (priv_ok hq.1 hq.2).1] at h
  have h1 := congrArg (fun b => bt b 1) h
  have e : ∀ z : Int, 1 ≤ z → z ≤ 8 → bt (⟨#[105, UInt8.ofNat z.toNat]⟩ : ByteArray) 1 = z := by
    intro z h1 h2
    obtain ⟨n, rfl⟩ := Int.eq_ofNat_of_zero_le (show 0 ≤ z by omega)
    have : n < 256 := by omega
    show ((UInt8.ofNat n).toNat : Int) = n
    rw [UInt8.toNat_ofNat']
    omega
  simp only at h1
  rw [e p hp.1 hp.2, e q hq.1 hq.2] at h1
  exact h1
theorem PartsBack : ∀ (l0 : List (S171)) (a1 : Int) (a2 : Int) (a3 : Int) (a4 : Int), (l0.length ≤ 9223372036854775807 ∧ ∀ y ∈ l0, (Lit.int .i64 y.f0).wf = true ∧ (Lit.int .i64 y.f1).wf = true ∧ (Lit.int .i64 y.f2).wf = true ∧ (Lit.int .i64 y.f3).wf = true) → ((Lit.int .i64 a1).wf = true) → ((Lit.int .i64 a2).wf = true) → ((Lit.int .i64 a3).wf = true) → ((Lit.int .i64 a4).wf = true) → ∃ k, gemotlaw2_PartsBack.f k l0 a1 a2 a3 a4 = some true := by
  intro l0 a1 a2 a3 a4 hl h1 h2 h3 h4
  refine ⟨1, ?_⟩
  obtain ⟨out, ho, hm, hlen⟩ := made2 l0 hl.2
  unfold gemotlaw2_PartsBack.f gemotlaw2_shown.f
  have h20 := hm.two
  have hpos : (0 : Int) < (out.length : Int) := by omega
  have r1 := pickF_range a1 hpos
  have r2 := pickF_range a2 hpos
  have r3 := pickF_range a3 hpos
  have r4 := pickF_range a4 (n := 8) (by decide)
  have ha := hm.at_ hlen a1
  have hb := hm.at_ hlen a2
  have hc := hm.at_ hlen a3
  rw [Option.bind_some, if_pos rfl, ho, Option.bind_some, pick2 h1 hpos (by omega), Option.bind_some, if_pos r1.1, if_pos r1.2, pick2 h2 hpos (by omega), Option.bind_some, if_pos r2.1, if_pos r2.2, pick2 h3 hpos (by omega), Option.bind_some, if_pos r3.1, if_pos r3.2, pick2 h4 (by decide) (by decide), Option.bind_some]
  rw [show rdOf ByteArray.empty out (pickF a1 out.length) = atF out (pickF a1 out.length) from rfl, show rdOf ByteArray.empty out (pickF a2 out.length) = atF out (pickF a2 out.length) from rfl, show rdOf ByteArray.empty out (pickF a3 out.length) = atF out (pickF a3 out.length) from rfl]
  generalize atF out (pickF a1 out.length) = a at ha ⊢
  generalize atF out (pickF a2 out.length) = b at hb ⊢
  generalize atF out (pickF a3 out.length) = c at hc ⊢
  generalize pickF a4 8 = p at r4 ⊢
  have sa := ha.2
  have sb := hb.2
  have sc := hc.2
  have hq : wrap64 (1 + p) = 1 + p := by unfold wrap64; omega
  rw [hq]
  obtain ⟨q, hq0⟩ : ∃ q, q = 1 + p := ⟨_, rfl⟩
  rw [← hq0]
  have q1 : 1 ≤ q := by omega
  have q2 : q ≤ 8 := by omega
  have hw : wrap64 (1 + Int.tmod q 8) = 1 + q % 8 := by
    rw [Int.tmod_eq_emod_of_nonneg (by omega)]
    unfold wrap64
    omega
  have hp := priv_ok q1 q2
  have hk : Part 42 (⟨#[105, UInt8.ofNat q.toNat]⟩ : ByteArray) := hp.2.part (by show 2 ≤ _; omega) (by omega)
  have ks : (⟨#[105, UInt8.ofNat q.toNat]⟩ : ByteArray).size = 2 := rfl
  generalize (⟨#[105, UInt8.ofNat q.toNat]⟩ : ByteArray) = key at hp hk ks
  have x1 := pair_made (by decide) (by decide) ha.1 hb.1 (by omega)
  have x2 := hash_made (by decide) (by decide) ha.1 (by omega)
  have x3 := seal_made (by decide) (by decide) ha.1 hb.1 hc.1 (by omega)
  have x4 := sign_made (by decide) (by decide) hk ha.1 (by omega)
  have f1 : term_Pair.f a b = some (pairF a b) := by unfold term_Pair.f; exact if_pos ⟨by omega, by omega⟩
  have f2 : term_Hash.f a = some (hashF a) := by unfold term_Hash.f; exact if_pos (by omega)
  have f3 : term_Seal.f a b c = some (sealF a b c) := by unfold term_Seal.f; exact if_pos ⟨by omega, by omega, by omega⟩
  have f4 : term_Sign.f key a = some (signF key a) := by unfold term_Sign.f; exact if_pos ⟨by omega, by omega⟩
  have f5 : term_Private.f q = some (key, 0) := by unfold term_Private.f; rw [hp.1]
  have m : ∀ {t : ByteArray}, Part 42 t → Part 399 t := fun h => h.mono (by decide)
  have y1 := kids_pairM (m ha.1) (m hb.1) (by omega)
  have y2 := kids_hashM (m ha.1) (by omega)
  have y3 := kids_sealM (m ha.1) (m hb.1) (m hc.1) (by omega)
  have y4 := kids_signM (m hk) (m ha.1) (by omega)
  have z1 : ((⟨#[112]⟩ : ByteArray) ++ cat [a, b]).size ≤ 20000 := ((right_iff _).mp y1.1).2
  have z2 : ((⟨#[104]⟩ : ByteArray) ++ cat [a]).size ≤ 20000 := ((right_iff _).mp y2.1).2
  have z3 : ((⟨#[115]⟩ : ByteArray) ++ cat [a, b, c]).size ≤ 20000 := ((right_iff _).mp y3.1).2
  have z4 : ((⟨#[120]⟩ : ByteArray) ++ cat [key, a]).size ≤ 20000 := ((right_iff _).mp y4.1).2
  rw [f1, f2, f3, f5, x1.1, x2.1, x3.1]
  simp only [Option.bind_some]
  rw [f4, x4.1]
  simp only [Option.bind_some, if_true]
  generalize (⟨#[112]⟩ : ByteArray) ++ cat [a, b] = P at y1 z1 ⊢
  generalize (⟨#[104]⟩ : ByteArray) ++ cat [a] = H at y2 z2 ⊢
  generalize (⟨#[115]⟩ : ByteArray) ++ cat [a, b, c] = S at y3 z3 ⊢
  generalize (⟨#[120]⟩ : ByteArray) ++ cat [key, a] = X at y4 z4 ⊢
  have g1 : parts_Kind.f P = some 112 := by unfold parts_Kind.f; rw [if_pos (by omega), y1.2.2.2]
  have g2 : parts_Of.f P = some [a, b] := by unfold parts_Of.f; rw [if_pos (by omega), y1.2.1]
  have g3 : parts_Of.f H = some [a] := by unfold parts_Of.f; rw [if_pos (by omega), y2.2.1]
  rw [g1, g2, g3]
  simp only [Option.bind_some, if_true, gemotlaw2_same.f, decide_true, gemotlaw2_PartsBack.j0, Bool.not_true, Bool.false_eq_true, if_false]
  have o1 : ∀ y, parts_Open.f S y = some (if a = y then (b, c, 0) else (⟨#[]⟩, ⟨#[]⟩, 6)) := by
    intro y
    unfold parts_Open.f openP
    rw [if_pos (by omega), if_pos y3.2.2.2, y3.2.2.1]
    rfl
  have o2 : ∀ n, parts_Check.f X n = some (if (privF n).2 = 0 ∧ key = (privF n).1 then (a, 0) else (⟨#[]⟩, 6)) := by
    intro n
    unfold parts_Check.f checkP
    rw [if_pos (by omega), if_pos y4.2.2.2, y4.2.2.1]
    rfl
  have o3 : ¬ ((privF (1 + q % 8)).2 = 0 ∧ key = (privF (1 + q % 8)).1) := by
    rintro ⟨_, h⟩
    have h5 : (privF q).1 = (privF (1 + q % 8)).1 := by rw [hp.1]; exact h
    have := priv_other ⟨q1, q2⟩ (by omega) h5
    omega
  have u1 : parts_Open.f S a = some (b, c, 0) := by rw [o1, if_pos rfl]
  have u3 : parts_Check.f X q = some (a, 0) := by rw [o2, if_pos ⟨by rw [hp.1], by rw [hp.1]⟩]
  have u4 : parts_Check.f X (1 + q % 8) = some (⟨#[]⟩, 6) := by rw [o2, if_neg o3]
  rw [hw, u1, o1 b, u3, u4]
  simp only [Option.bind_some, if_true]
  by_cases c1 : a = b
  · rw [if_pos c1, c1]
    simp
  · rw [if_neg c1]
    have c2 : (a.toList == b.toList) = false := by
      rw [beq_eq_false_iff_ne]
      exact fun h => c1 (tl_eq.mp h)
    rw [c2]
    simp
end Go.Proofs.Ytpfpmjdifnoeoaa.Pure
