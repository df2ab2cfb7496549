/- Plain facts about what names, numbers and texts say. -/
import Derived.Test.YtpfpmjdifnoeoaaMListPacksB2
import Derived.Test.YtpfpmjdifnoeoaaMListPacksB3
namespace Go.Proofs.Ytpfpmjdifnoeoaa.Pure
set_option linter.unusedVariables false
set_option linter.unusedSimpArgs false
open Go.RowKit Go.Proofs.Ytpfpmjdifnoeoaa.F Go.Proofs.YtpfpmjdifnoeoaaW.PrintWords Go.Proofs.YtpfpmjdifnoeoaaW.PrintLast Go.Proofs.YtpfpmjdifnoeoaaW.PrintMore
theorem shr_div (x : Int) (j : Nat) (hj : j ≤ 64) : shr .u64 x (j : Int) = x / ((2 ^ j : Nat) : Int) := by
  unfold shr
  rw [Nat.min_eq_left (by show ((j : Int)).toNat ≤ 64; omega), Int.toNat_natCast]
  congr 1
theorem byte_back (x : Int) : ((UInt8.ofNat (x % 256).toNat).toNat : Int) = x % 256 := by
  rw [UInt8.toNat_ofNat_of_lt' (by show (x % 256).toNat < 256; omega)]
  omega
theorem dec_count (c : Int) {n : Int} (h0 : 0 ≤ n) (h1 : n < 18446744073709551616) : decK (countF c n) 8 = n := by
  have b1 : bt (countF c n) ((1 : Nat) : Int) = n / 72057594037927936 % 256 := (byte_back (shr .u64 n ((56 : Nat) : Int))).trans (by rw [shr_div n 56 (by omega)]; rfl)
  have b2 : bt (countF c n) ((2 : Nat) : Int) = n / 281474976710656 % 256 := (byte_back (shr .u64 n ((48 : Nat) : Int))).trans (by rw [shr_div n 48 (by omega)]; rfl)
  have b3 : bt (countF c n) ((3 : Nat) : Int) = n / 1099511627776 % 256 := (byte_back (shr .u64 n ((40 : Nat) : Int))).trans (by rw [shr_div n 40 (by omega)]; rfl)
  have b4 : bt (countF c n) ((4 : Nat) : Int) = n / 4294967296 % 256 := (byte_back (shr .u64 n ((32 : Nat) : Int))).trans (by rw [shr_div n 32 (by omega)]; rfl)
  have b5 : bt (countF c n) ((5 : Nat) : Int) = n / 16777216 % 256 := (byte_back (shr .u64 n ((24 : Nat) : Int))).trans (by rw [shr_div n 24 (by omega)]; rfl)
  have b6 : bt (countF c n) ((6 : Nat) : Int) = n / 65536 % 256 := (byte_back (shr .u64 n ((16 : Nat) : Int))).trans (by rw [shr_div n 16 (by omega)]; rfl)
  have b7 : bt (countF c n) ((7 : Nat) : Int) = n / 256 % 256 := (byte_back (shr .u64 n ((8 : Nat) : Int))).trans (by rw [shr_div n 8 (by omega)]; rfl)
  have b8 : bt (countF c n) ((8 : Nat) : Int) = n % 256 := (byte_back (shr .u64 n ((0 : Nat) : Int))).trans (by rw [shr_div n 0 (by omega)]; simp)
  have d1 : decK (countF c n) 1 = n / 72057594037927936 := by rw [decK, decK, b1]; omega
  have d2 : decK (countF c n) 2 = n / 281474976710656 := by rw [decK, d1, b2]; omega
  have d3 : decK (countF c n) 3 = n / 1099511627776 := by rw [decK, d2, b3]; omega
  have d4 : decK (countF c n) 4 = n / 4294967296 := by rw [decK, d3, b4]; omega
  have d5 : decK (countF c n) 5 = n / 16777216 := by rw [decK, d4, b5]; omega
  have d6 : decK (countF c n) 6 = n / 65536 := by rw [decK, d5, b6]; omega
  have d7 : decK (countF c n) 7 = n / 256 := by rw [decK, d6, b7]; omega
  rw [decK, d7, b8]
  omega
theorem val_num {n : Int} (h0 : 0 ≤ n) (h1 : n < 18446744073709551616) : valF (numF n) = (n, true) := by
  have hk : kindF (numF n) = 117 := (kind_leaf (num_leaf n) (by rw [numF_size]; omega)).trans rfl
  unfold valF
  rw [if_pos (.inr hk)]
  exact congrArg (·, true) (dec_count 117 h0 h1)
end Go.Proofs.Ytpfpmjdifnoeoaa.Pure
