/- Plain facts about what names, numbers and texts say. -/
import Derived.Test.YtpfpmjdifnoeoaaB2
import Derived.Test.YtpfpmjdifnoeoaaB3
namespace Go.Proofs.Ytpfpmjdifnoeoaa.Pure
set_option linter.unusedVariables false
set_option linter.unusedSimpArgs false
open Go.RowKit Go.Proofs.Ytpfpmjdifnoeoaa.F Go.Proofs.YtpfpmjdifnoeoaaW.PrintWords Go.Proofs.YtpfpmjdifnoeoaaW.PrintLast Go.Proofs.YtpfpmjdifnoeoaaW.PrintMore

theorem shr_div (x : Int) (j : Nat) (hj : j ≤ 64) : shr .u64 x (j : Int) = x / ((2 ^ j : Nat) : Int) := by
  unfold shr
  rw [Nat.min_eq_left (by show ((j : Int)).toNat ≤ 64; omega), Int.toNat_natCast]
  congr 1
theorem byte_back (x : Int) : ((UInt8.ofNat (x % 256).toNat).toNat : Int) = x % 256 := by
  rw [UInt8.toNat_ofNat_of_lt' (by show (x % 256).toNat < 256; omega)]
  omega
theorem dec_count (c : Int) {n : Int} (h0 : 0 ≤ n) (h1 : n < 18446744073709551616) : decK (countF c n) 8 = n := by
  have b1 : bt (countF c n) ((1 : Nat) : Int) = n / 72057594037927936 % 256 := (byte_back (shr .u64 n ((56 : Nat) : Int))).trans (by rw [shr_div n 56 (by omega)]; rfl)
  have b2 : bt (countF c n) ((2 : Nat) : Int) = n / 281474976710656 % 256 := (byte_back (shr .u64 n ((48 : Nat) : Int))).trans (by rw [shr_div n 48 (by omega)]; rfl)
  have b3 : bt (countF c n) ((3 : Nat) : Int) = n / 1099511627776 % 256 := (byte_back (shr .u64 n ((40 : Nat) : Int))).trans (by rw [shr_div n 40 (by omega)]; rfl)
  have b4 : bt (countF c n) ((4 : Nat) : Int) = n / 4294967296 % 256 := (byte_back (shr .u64 n ((32 : Nat) : Int))).trans (by rw [shr_div n 32 (by omega)]; rfl)
  have b5 : bt (countF c n) ((5 : Nat) : Int) = n / 16777216 % 256 := (byte_back (shr .u64 n ((24 : Nat) : Int))).trans (by rw [shr_div n 24 (by omega)]; rfl)
  have b6 : bt (countF c n) ((6 : Nat) : Int) = n / 65536 % 256 := (byte_back (shr .u64 n ((16 : Nat) : Int))).trans (by rw [shr_div n 16 (by omega)]; rfl)
  have b7 : bt (countF c n) ((7 : Nat) : Int) = n / 256 % 256 := (byte_back (shr .u64 n ((8 : Nat) : Int))).trans (by rw [shr_div n 8 (by omega)]; rfl)
  have b8 : bt (countF c n) ((8 : Nat) : Int) = n % 256 := (byte_back (shr .u64 n ((0 : Nat) : Int))).trans (by rw [shr_div n 0 (by omega)]; simp)
  have d1 : decK (countF c n) 1 = n / 72057594037927936 := by rw [decK, decK, b1]; omega
  have d2 : decK (countF c n) 2 = n / 281474976710656 := by rw [decK, d1, b2]; omega
  have d3 : decK (countF c n) 3 = n / 1099511627776 := by rw [decK, d2, b3]; omega
  have d4 : decK (countF c n) 4 = n / 4294967296 := by rw [decK, d3, b4]; omega
  have d5 : decK (countF c n) 5 = n / 16777216 := by rw [decK, d4, b5]; omega
  have d6 : decK (countF c n) 6 = n / 65536 := by rw [decK, d5, b6]; omega
  have d7 : decK (countF c n) 7 = n / 256 := by rw [decK, d6, b7]; omega
  rw [decK, d7, b8]
  omega
theorem val_name {n : Int} (h0 : 0 ≤ n) (h1 : n < 18446744073709551616) : valF (nameF n) = (n, true) := by
  have hk : kindF (nameF n) = 110 := (kind_leaf (name_leaf n) (by rw [name_size]; omega)).trans rfl
  unfold valF
  rw [if_pos (.inl hk)]
  exact congrArg (·, true) (dec_count 110 h0 h1)
theorem val_num {n : Int} (h0 : 0 ≤ n) (h1 : n < 18446744073709551616) : valF (numF n) = (n, true) := by
  have hk : kindF (numF n) = 117 := (kind_leaf (num_leaf n) (by rw [numF_size]; omega)).trans rfl
  unfold valF
  rw [if_pos (.inr hk)]
  exact congrArg (·, true) (dec_count 117 h0 h1)
theorem said_text {s : ByteArray} (h : s.size ≤ 100) : saidF (textF s).1 = (s, true) := by
  have ht := text_ok h
  obtain ⟨b0, b1, b2, hz⟩ := text_bytes s h
  rw [ht.1]
  have hk : kindF (strOfNums [116, 0, s.size] ++ s) = 116 := (kind_leaf ht.2 (by omega)).trans b0
  have he : (strOfNums [116, 0, s.size] ++ s).extract 3 (strOfNums [116, 0, s.size] ++ s).size = s := by
    have := (Lies.last (strOfNums [116, 0, (s.size : Int)]) s).whole
    rw [show (strOfNums [116, 0, (s.size : Int)]).size = 3 from rfl] at this
    rw [hz]
    exact this
  unfold saidF
  rw [if_pos hk]
  exact congrArg (·, true) he
/-- Of a right text: it has parts just if its first byte is none of a leaf's. -/
theorem kids_kind {t : ByteArray} (h : rightB t = true) : (kidsF t = [] ↔ bt t 0 = 110 ∨ bt t 0 = 117 ∨ bt t 0 = 116 ∨ bt t 0 = 105 ∨ bt t 0 = 103) := by
  rcases right_cases h with hl | ⟨hd, pow, n⟩
  · have hb := leaf_bytes hl
    exact ⟨fun _ => by omega, fun _ => kids_leaf hl⟩
  · have hb := node_bytes n
    refine ⟨fun h0 => ?_, fun _ => by omega⟩
    have := leaf_bytes (kids_none h h0)
    omega
end Go.Proofs.Ytpfpmjdifnoeoaa.Pure
