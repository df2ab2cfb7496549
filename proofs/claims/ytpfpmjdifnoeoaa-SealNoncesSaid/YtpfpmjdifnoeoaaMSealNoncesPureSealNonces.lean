/- The pure side of SealNonces: the nonces of a view are two hundred and fifty-six terms. -/
import Derived.Test.YtpfpmjdifnoeoaaMSealNoncesLSeal
import Derived.Test.YtpfpmjdifnoeoaaMSealNoncesF11
import Derived.Test.YtpfpmjdifnoeoaaMSealNoncesLSeal2
namespace Go.Proofs.Ytpfpmjdifnoeoaa.Pure
set_option linter.unusedVariables false
set_option linter.unusedSimpArgs false
open Go.RowKit Go.Proofs.Ytpfpmjdifnoeoaa.F Go.Proofs.YtpfpmjdifnoeoaaW.PrintWords Go.Proofs.YtpfpmjdifnoeoaaW.PrintLast Go.Proofs.YtpfpmjdifnoeoaaW.PrintMore
def metP (p i : Int) : List (Int × Int) := (List.range (((p - 1) * 32 + (i - 1)).toNat)).map fun x : Nat => ((x : Int) / 32 + 1, (x : Int) % 32 + 1)
def metN (E p i : Int) : List ByteArray := (metP p i).map fun y => nonceT E y.1 y.2
theorem metN_len (E p i : Int) : (metN E p i).length = ((p - 1) * 32 + (i - 1)).toNat := by simp [metN, metP]
theorem metN_snoc {E p i : Int} (hp : 1 ≤ p ∧ p ≤ 8) (hi : 1 ≤ i ∧ i ≤ 32) : metN E p i ++ [nonceT E p i] = metN E p (i + 1) := by
  unfold metN metP
  have e : ((p - 1) * 32 + (i + 1 - 1)).toNat = ((p - 1) * 32 + (i - 1)).toNat + 1 := by omega
  rw [e, List.range_succ, List.map_append, List.map_append]
  simp only [List.map_cons, List.map_nil]
  have e1 : ((((p - 1) * 32 + (i - 1)).toNat : Nat) : Int) / 32 + 1 = p := by omega
  have e2 : ((((p - 1) * 32 + (i - 1)).toNat : Nat) : Int) % 32 + 1 = i := by omega
  rw [e1, e2]
theorem metN_next (E p : Int) : metN E p 33 = metN E (p + 1) 1 := by
  unfold metN metP
  have e : (p - 1) * 32 + (33 - 1) = (p + 1 - 1) * 32 + (1 - 1) := by omega
  rw [e]
theorem metN_get {E p i : Int} (hE : 0 ≤ E ∧ E ≤ 999) (hp : 1 ≤ p ∧ p ≤ 8) (hi : 1 ≤ i ∧ i ≤ 32) {j : Int} (h0 : 0 ≤ j) (hj : j < (metN E p i).length) : ¬ (rdOf ByteArray.empty (metN E p i) j).toList = (nonceT E p i).toList := by
  rw [metN_len] at hj
  intro h
  have h1 := tl_eq.mp h
  have h2 : rdOf ByteArray.empty (metN E p i) j = nonceT E (j / 32 + 1) (j % 32 + 1) := by
    unfold rdOf metN metP
    rw [List.getD_eq_getElem?_getD, List.getElem?_eq_getElem (by simp; omega)]
    simp only [List.getElem_map, List.getElem_range, Option.getD_some]
    rw [show ((j.toNat : Nat) : Int) = j by omega]
  rw [h2] at h1
  obtain ⟨_, h3, h4⟩ := nonce_inj hE hE (by omega) (by omega) (by omega) (by omega) h1
  omega
theorem nonces_l2 {a E p i : Int} (hE : 0 ≤ E ∧ E ≤ 999) (hp : 1 ≤ p ∧ p ≤ 8) (hi : 1 ≤ i ∧ i ≤ 32) {R : Option Bool} {K : Nat} (hR : ∀ k, K ≤ k → gemotlaw17_SealNonces.l1 k a (metN E p (i + 1)) p (i + 1) = R) : ∀ (d k : Nat) (j : Int), 0 ≤ j → j + d = (metN E p i).length → K + d + 1 ≤ k →
    gemotlaw17_SealNonces.l2 k a (metN E p i) p i (nonceT E p i) j = R
  | 0, k, j, h0, h1, hk => by
    obtain ⟨k, rfl⟩ : ∃ m, k = m + 1 := ⟨k - 1, by omega⟩
    have hl := metN_len E p i
    simp only [gemotlaw17_SealNonces.l2]
    rw [if_neg (by omega), if_pos (by omega), metN_snoc hp hi, show wrap64 (i + 1) = i + 1 by unfold wrap64; omega]
    exact hR k (by omega)
  | d + 1, k, j, h0, h1, hk => by
    obtain ⟨k, rfl⟩ : ∃ m, k = m + 1 := ⟨k - 1, by omega⟩
    have hl := metN_len E p i
    simp only [gemotlaw17_SealNonces.l2]
    rw [if_pos (by omega), if_pos h0, if_neg (metN_get hE hp hi h0 (by omega)), show wrap64 (j + 1) = j + 1 by unfold wrap64; omega]
    exact nonces_l2 hE hp hi hR d k (j + 1) (by omega) (by omega) (by omega)
theorem nonces_l1 {a : Int} (ha : (Lit.int .i64 a).wf = true) {p : Int} (hp : 1 ≤ p ∧ p ≤ 8) {R : Option Bool} {K : Nat} (hR : ∀ k, K ≤ k → gemotlaw17_SealNonces.l0 k a (metN (pickF a 1000) (p + 1) 1) (p + 1) = R) : ∀ (d k : Nat) (i : Int), 1 ≤ i → i + d = 33 → K + d * 300 + 1 ≤ k →
    gemotlaw17_SealNonces.l1 k a (metN (pickF a 1000) p i) p i = R := by
  intro d
  induction d with
  | zero =>
    intro k i h0 h1 hk
    obtain ⟨k, rfl⟩ : ∃ m, k = m + 1 := ⟨k - 1, by omega⟩
    obtain rfl : i = 33 := by omega
    simp only [gemotlaw17_SealNonces.l1]
    rw [if_neg (by omega), metN_next, show wrap64 (p + 1) = p + 1 by unfold wrap64; omega]
    exact hR k (by omega)
  | succ d ih =>
    intro k i h0 h1 hk
    obtain ⟨k, rfl⟩ : ∃ m, k = m + 1 := ⟨k - 1, by omega⟩
    have hE := pick17_range a (n := 1000) (by decide)
    have hl := metN_len (pickF a 1000) p i
    have hn : seal_Nonce.f (pickF a 1000) 1 procs8 p i = some (nonceT (pickF a 1000) p i, 0) := by
      unfold seal_Nonce.f
      rw [if_pos (by decide), nonce_ok (by omega) hp (by omega)]
    simp only [gemotlaw17_SealNonces.l1]
    rw [if_pos (by omega), of17 ha]
    simp only [Option.bind_some]
    rw [hn]
    simp only [Option.bind_some, if_true]
    exact nonces_l2 (by omega) hp (by omega) (fun k hk => ih k (i + 1) (by omega) (by omega) hk) (metN (pickF a 1000) p i).length k 0 (by omega) (by omega) (by omega)
theorem nonces_l0 {a : Int} (ha : (Lit.int .i64 a).wf = true) : ∀ (d k : Nat) (p : Int), 1 ≤ p → p + d = 9 → d * 10000 + 1 ≤ k →
    gemotlaw17_SealNonces.l0 k a (metN (pickF a 1000) p 1) p = some true := by
  intro d
  induction d with
  | zero =>
    intro k p h0 h1 hk
    obtain ⟨k, rfl⟩ : ∃ m, k = m + 1 := ⟨k - 1, by omega⟩
    obtain rfl : p = 9 := by omega
    have hl := metN_len (pickF a 1000) 9 1
    have n1 : seal_Nonce.f (pickF a 1000) 1 procs8 9 1 = some (⟨#[]⟩, 1) := by
      unfold seal_Nonce.f
      rw [if_pos (by decide), nonce_not (.inl (by decide))]
    have n2 : seal_Nonce.f (pickF a 1000) 1 procs8 1 33 = some (⟨#[]⟩, 1) := by
      unfold seal_Nonce.f
      rw [if_pos (by decide), nonce_not (.inr (by decide))]
    simp only [gemotlaw17_SealNonces.l0]
    rw [if_neg (by omega), of17 ha]
    simp only [Option.bind_some]
    rw [n1, n2]
    simp only [Option.bind_some]
    rw [if_pos (by omega)]
    rfl
  | succ d ih =>
    intro k p h0 h1 hk
    obtain ⟨k, rfl⟩ : ∃ m, k = m + 1 := ⟨k - 1, by omega⟩
    simp only [gemotlaw17_SealNonces.l0]
    rw [if_pos (by omega)]
    exact nonces_l1 ha (by omega) (fun k hk => ih k (p + 1) (by omega) (by omega) hk) 32 k 1 (by omega) (by omega) (by omega)
theorem SealNonces : ∀ (a0 : Int), ((Lit.int .i64 a0).wf = true) → ∃ k, gemotlaw17_SealNonces.f k a0 = some true := by
  intro a ha
  obtain ⟨K, hK⟩ : ∃ K : Nat, K = 80001 := ⟨_, rfl⟩
  refine ⟨K, ?_⟩
  unfold gemotlaw17_SealNonces.f gemotlaw17_shown.f
  rw [Option.bind_some, if_pos rfl]
  have h : metN (pickF a 1000) 1 1 = [] := rfl
  rw [← h]
  exact nonces_l0 ha 8 K 1 (by omega) (by omega) (by omega)
end Go.Proofs.Ytpfpmjdifnoeoaa.Pure
