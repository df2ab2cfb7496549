/- Plain facts about the lists of terms and of numbers. -/
import Derived.Test.YtpfpmjdifnoeoaaB1
import Derived.Test.YtpfpmjdifnoeoaaF46
namespace Go.Proofs.Ytpfpmjdifnoeoaa.Pure
open Go.RowKit Go.Proofs.Ytpfpmjdifnoeoaa.F Go.Proofs.YtpfpmjdifnoeoaaW.PrintWords Go.Proofs.YtpfpmjdifnoeoaaW.PrintLast Go.Proofs.YtpfpmjdifnoeoaaW.PrintMore

theorem putOut_tm (m : Int) (hm : 1 ≤ m) : ∀ (l : List ByteArray), (∀ t ∈ l, Tm t ∧ depF t ≤ m) → (l.length : Int) + m ≤ 400 → Tm (putOut l) ∧ depF (putOut l) ≤ m + l.length
  | [], _, _ => ⟨(tm_num 0).1, by rw [show putOut [] = numF 0 from rfl, (tm_num 0).2]; simp; omega⟩
  | t :: l, h, hl => by
    rw [List.length_cons] at hl ⊢
    have h1 := putOut_tm m hm l (fun x hx => h x (List.mem_cons_of_mem _ hx)) (by omega)
    have h2 := h t List.mem_cons_self
    have h3 := tm_pair h2.1 h1.1 (by omega) (by omega)
    refine ⟨h3.1, ?_⟩
    have h4 := h3.2
    have h5 : mx (depF t) (depF (putOut l)) ≤ m + l.length := by unfold mx; split <;> omega
    show depF ((⟨#[112]⟩ : ByteArray) ++ t ++ putOut l) ≤ _
    omega
theorem putOut_size9 : ∀ (l : List ByteArray), (∀ t ∈ l, t.size = 9) → (putOut l).size = 9 + 10 * l.length
  | [], _ => rfl
  | t :: l, h => by
    have h1 := putOut_size9 l (fun x hx => h x (List.mem_cons_of_mem _ hx))
    have h2 := h t List.mem_cons_self
    show ((⟨#[112]⟩ : ByteArray) ++ t ++ putOut l).size = _
    rw [ByteArray.size_append, ByteArray.size_append, h1, h2, List.length_cons]
    show 1 + 9 + _ = _
    omega
theorem num_right (n : Int) : rightB (numF n) = true := (right_iff _).mpr ⟨(tm_num n).1, by rw [numF_size]; omega⟩
/-- Numbers, no more than 150: they are put. -/
theorem putF_nums (ns : List Int) (h : ns.length ≤ 150) : putF (ns.map numF) = (putOut (ns.map numF), 0) := by
  have h1 : (ns.map numF).any (fun x => !rightB x) = false := by
    rw [List.any_eq_false]
    intro x hx
    obtain ⟨n, _, rfl⟩ := List.mem_map.mp hx
    rw [num_right]; simp
  have h2 := putOut_size9 (ns.map numF) (by intro t ht; obtain ⟨n, _, rfl⟩ := List.mem_map.mp ht; rfl)
  have h3 := putOut_tm 1 (by omega) (ns.map numF) (by intro t ht; obtain ⟨n, _, rfl⟩ := List.mem_map.mp ht; exact ⟨(tm_num n).1, by rw [(tm_num n).2]; omega⟩) (by rw [List.length_map]; omega)
  rw [List.length_map] at h2 h3
  unfold putF
  rw [if_neg (by rw [h1, List.length_map]; simp; omega), if_neg (by omega), if_pos ((right_iff _).mpr ⟨h3.1, by omega⟩)]
theorem app_inj {a b c d : ByteArray} (h : a ++ b = c ++ d) (hs : a.size = c.size) : a = c ∧ b = d := by
  have h1 := congrArg (fun x => x.data.toList) h
  simp only [ByteArray.data_append, Array.toList_append] at h1
  have h2 := List.append_inj h1 hs
  exact ⟨ByteArray.ext (Array.ext' h2.1), ByteArray.ext (Array.ext' h2.2)⟩
theorem putOut_inj : ∀ (l l' : List ByteArray), (∀ t ∈ l, t.size = 9) → (∀ t ∈ l', t.size = 9) → putOut l = putOut l' → l = l'
  | [], [], _, _, _ => rfl
  | [], t :: l', h, h', e => by
    have h1 := putOut_size9 [] (by simp)
    rw [e, putOut_size9 _ h', List.length_cons] at h1
    simp at h1
  | t :: l, [], h, h', e => by
    have h1 := putOut_size9 [] (by simp)
    rw [← e, putOut_size9 _ h, List.length_cons] at h1
    simp at h1
  | t :: l, u :: l', h, h', e => by
    have e' : (⟨#[112]⟩ : ByteArray) ++ t ++ putOut l = (⟨#[112]⟩ : ByteArray) ++ u ++ putOut l' := e
    have h2 := h t List.mem_cons_self
    have h3 := h' u List.mem_cons_self
    have h4 := app_inj e' (by rw [ByteArray.size_append, ByteArray.size_append, h2, h3])
    rw [(app_inj h4.1 rfl).2, putOut_inj l l' (fun x hx => h x (List.mem_cons_of_mem _ hx)) (fun x hx => h' x (List.mem_cons_of_mem _ hx)) h4.2]
theorem byte_inj {a b : Int} (h : UInt8.ofNat (a % 256).toNat = UInt8.ofNat (b % 256).toNat) : a % 256 = b % 256 := by
  have := congrArg UInt8.toNat h
  rw [UInt8.toNat_ofNat_of_lt' (by simp; omega), UInt8.toNat_ofNat_of_lt' (by simp; omega)] at this
  omega
theorem numF_inj {a b : Int} (ha : 0 ≤ a ∧ a < 18446744073709551616) (hb : 0 ≤ b ∧ b < 18446744073709551616) (h : numF a = numF b) : a = b := by
  have h1 := congrArg (fun x => x.data.toList) h
  simp only [numF, countF, strOfNums_data, eightL, List.map_cons, List.map_nil, List.cons.injEq, and_true, true_and] at h1
  obtain ⟨h7, h6, h5, h4, h3, h2, h1, h0⟩ := h1
  replace h7 := byte_inj h7
  replace h6 := byte_inj h6
  replace h5 := byte_inj h5
  replace h4 := byte_inj h4
  replace h3 := byte_inj h3
  replace h2 := byte_inj h2
  replace h1 := byte_inj h1
  replace h0 := byte_inj h0
  have s : ∀ (x : Int) (j : Nat), j ≤ 64 → shr .u64 x (j : Int) = x / ((2 ^ j : Nat) : Int) := by
    intro x j hj
    unfold shr
    rw [Nat.min_eq_left (by show ((j : Int)).toNat ≤ 64; omega), Int.toNat_natCast]
    congr 1
  have t : ∀ (x : Int) (j : Nat), j ≤ 56 → shr .u64 x ((j + 8 : Nat) : Int) = shr .u64 x (j : Int) / 256 := by
    intro x j hj
    rw [s x _ (by omega), s x _ (by omega), Int.ediv_ediv_of_nonneg (Int.natCast_nonneg _), Nat.pow_add]
    simp
  have step : ∀ j : Nat, j ≤ 56 → shr .u64 a (j : Int) % 256 = shr .u64 b (j : Int) % 256 → shr .u64 a ((j + 8 : Nat) : Int) = shr .u64 b ((j + 8 : Nat) : Int) → shr .u64 a (j : Int) = shr .u64 b (j : Int) := by
    intro j hj e1 e2
    rw [t a j hj, t b j hj] at e2
    omega
  have top : shr .u64 a ((64 : Nat) : Int) = shr .u64 b ((64 : Nat) : Int) := by
    rw [s a 64 (by omega), s b 64 (by omega)]
    have : ((2 ^ 64 : Nat) : Int) = 18446744073709551616 := by decide
    rw [this]
    omega
  have r := step 0 (by omega) h0 (step 8 (by omega) h1 (step 16 (by omega) h2 (step 24 (by omega) h3 (step 32 (by omega) h4 (step 40 (by omega) h5 (step 48 (by omega) h6 (step 56 (by omega) h7 top)))))))
  rw [s a 0 (by omega), s b 0 (by omega)] at r
  simpa using r
theorem wrap_u64_inj {a b : Int} (ha : -9223372036854775808 ≤ a ∧ a ≤ 9223372036854775807) (hb : -9223372036854775808 ≤ b ∧ b ≤ 9223372036854775807) (h : numF (IntKind.u64.wrap a) = numF (IntKind.u64.wrap b)) : a = b := by
  have w : ∀ x : Int, IntKind.u64.wrap x = x % 18446744073709551616 := fun x => rfl
  rw [w, w] at h
  have := numF_inj (by omega) (by omega) h
  omega
/-- What a row of numbers says when it is put: no other row says it. -/
def numsOut (ns : List Int) : ByteArray := putOut (ns.map fun n => numF (IntKind.u64.wrap n))
theorem numsOut_inj {a b : List Int} (ha : ∀ x ∈ a, -9223372036854775808 ≤ x ∧ x ≤ 9223372036854775807) (hb : ∀ x ∈ b, -9223372036854775808 ≤ x ∧ x ≤ 9223372036854775807) (h : numsOut a = numsOut b) : a = b := by
  have h1 := putOut_inj _ _ (by intro t ht; obtain ⟨n, _, rfl⟩ := List.mem_map.mp ht; rfl) (by intro t ht; obtain ⟨n, _, rfl⟩ := List.mem_map.mp ht; rfl) h
  clear h
  induction a generalizing b with
  | nil => cases b with
    | nil => rfl
    | cons y b => simp at h1
  | cons x a ih => cases b with
    | nil => simp at h1
    | cons y b =>
      simp only [List.map_cons, List.cons.injEq] at h1
      rw [wrap_u64_inj (ha x List.mem_cons_self) (hb y List.mem_cons_self) h1.1, ih (fun x hx => ha x (List.mem_cons_of_mem _ hx)) (fun x hx => hb x (List.mem_cons_of_mem _ hx)) h1.2]
theorem numsOut_right (ns : List Int) (h : ns.length ≤ 150) : rightB (numsOut ns) = true := by
  have h2 := putOut_size9 (ns.map fun n => numF (IntKind.u64.wrap n)) (by intro t ht; obtain ⟨n, _, rfl⟩ := List.mem_map.mp ht; rfl)
  have h3 := putOut_tm 1 (by omega) (ns.map fun n => numF (IntKind.u64.wrap n)) (by intro t ht; obtain ⟨n, _, rfl⟩ := List.mem_map.mp ht; exact ⟨(tm_num _).1, by rw [(tm_num _).2]; omega⟩) (by rw [List.length_map]; omega)
  rw [List.length_map] at h2 h3
  exact (right_iff _).mpr ⟨h3.1, by show (putOut _).size ≤ _; omega⟩
theorem put_nums (ns : List Int) (h : ns.length ≤ 150) : list_Put.f (ns.map fun n => numF (IntKind.u64.wrap n)) = some (numsOut ns, 0) := by
  unfold list_Put.f
  rw [if_pos (by intro t ht; obtain ⟨n, _, rfl⟩ := List.mem_map.mp ht; rw [numF_size]; omega)]
  have := putF_nums (ns.map fun n => IntKind.u64.wrap n) (by rw [List.length_map]; exact h)
  rw [List.map_map] at this
  exact congrArg some this
end Go.Proofs.Ytpfpmjdifnoeoaa.Pure
