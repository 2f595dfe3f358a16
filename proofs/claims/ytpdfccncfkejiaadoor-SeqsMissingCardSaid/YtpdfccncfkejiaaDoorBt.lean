/- bits in plain words: a mask of ones below is a remainder. -/
import Derived.Test.YtpdfccncfkejiaaDoorX0
namespace Go.Proofs.YtpdfccncfkejiaaDoor.Pure
open Go Go.Proofs.YtpdfccncfkejiaaDoor.G
theorem toNat_ofInt64 (x : Int) : (BitVec.ofInt 64 x).toNat = (x % 18446744073709551616).toNat := by
  rw [BitVec.toNat_ofInt]; rfl
theorem wrap_i64_small (n : Nat) (h : n < 9223372036854775808) : IntKind.i64.wrap (n : Int) = n :=
  IntWalk.i64_in _ (by omega)
theorem and_mask (x : Int) (n : Nat) (hn : n ≤ 62) : Go.bits .and .i64 x ((2 ^ n - 1 : Nat) : Int) = x % ((2 ^ n : Nat) : Int) := by
  have hp : 2 ^ n ≤ 2 ^ 62 := Nat.pow_le_pow_right (by omega) hn
  have hp0 : 0 < 2 ^ n := Nat.pow_pos (by omega)
  have hm : ((((2 ^ n - 1 : Nat) : Int)) % 18446744073709551616).toNat = 2 ^ n - 1 := by
    rw [Int.emod_eq_of_lt (by omega) (by omega)]; omega
  show IntKind.i64.wrap (((BitVec.ofInt 64 x &&& BitVec.ofInt 64 ((2 ^ n - 1 : Nat) : Int) : BitVec 64).toNat : Nat) : Int) = _
  rw [BitVec.toNat_and, toNat_ofInt64, toNat_ofInt64, hm, Nat.and_two_pow_sub_one_eq_mod]
  have hl : (x % 18446744073709551616).toNat % 2 ^ n < 2 ^ n := Nat.mod_lt _ hp0
  rw [wrap_i64_small _ (by omega)]
  have h0 : 0 ≤ x % 18446744073709551616 := Int.emod_nonneg _ (by decide)
  rw [Int.natCast_emod, Int.toNat_of_nonneg h0]
  exact Int.emod_emod_of_dvd x (by
    have : ((2 ^ n : Nat) : Int) ∣ ((2 ^ 64 : Nat) : Int) := Int.natCast_dvd_natCast.2 (Nat.pow_dvd_pow 2 (by omega))
    simpa using this)
theorem and255 (x : Int) : Go.bits .and .i64 x 255 = x % 256 := and_mask x 8 (by omega)
theorem and31 (x : Int) : Go.bits .and .i64 x 31 = x % 32 := and_mask x 5 (by omega)
end Go.Proofs.YtpdfccncfkejiaaDoor.Pure
