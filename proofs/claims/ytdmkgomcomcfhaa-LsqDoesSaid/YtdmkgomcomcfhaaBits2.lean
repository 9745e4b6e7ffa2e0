/- Numbers of 64 bits with a sign: masks. -/
import Derived.Test.YtdmkgomcomcfhaaBits
import Derived.Laws.BitsAllLaws
namespace Go.Proofs.Ytdmkgomcomcfhaa
open Go.RowKit

theorem bv_toNat (n : Nat) (x : Int) : (BitVec.ofInt n x).toNat = (x % (2 ^ n : Nat)).toNat := by
  simp [BitVec.toNat_ofInt]
theorem wrap_i64 (n : Int) : IntKind.i64.wrap n = if n % 18446744073709551616 ≥ 9223372036854775808 then n % 18446744073709551616 - 18446744073709551616 else n % 18446744073709551616 := by
  simp [IntKind.wrap, IntKind.bits, IntKind.signed]
theorem wrap_i32 (n : Int) : IntKind.i32.wrap n = if n % 4294967296 ≥ 2147483648 then n % 4294967296 - 4294967296 else n % 4294967296 := by
  simp [IntKind.wrap, IntKind.bits, IntKind.signed]
theorem and64 (x : Int) (k : Nat) (hk : k < 32) : bits .and .i64 x (2 ^ k - 1) = x % 2 ^ k := by
  have h1 : 2 ^ k ≤ 2 ^ 31 := Nat.pow_le_pow_right (by decide) (by omega)
  have h2 : 1 ≤ 2 ^ k := Nat.one_le_two_pow
  have e1 : (((2 : Int) ^ k - 1) % ((2 ^ 64 : Nat) : Int)).toNat = 2 ^ k - 1 := by
    have : (2 : Int) ^ k = ((2 ^ k : Nat) : Int) := by simp
    rw [this]
    omega
  have hd : ((2 ^ k : Nat) : Int) ∣ 18446744073709551616 := by
    have : (18446744073709551616 : Int) = ((2 ^ 64 : Nat) : Int) := by decide
    rw [this]
    exact Int.natCast_dvd_natCast.2 (Nat.pow_dvd_pow 2 (by omega))
  have e2 : ((x % ((2 ^ 64 : Nat) : Int)).toNat % 2 ^ k : Nat) = (x % 2 ^ k).toNat := by
    have h3 : 0 ≤ x % ((2 ^ 64 : Nat) : Int) := Int.emod_nonneg _ (by decide)
    have h4 : 0 ≤ x % ((2 ^ k : Nat) : Int) := Int.emod_nonneg _ (by omega)
    apply Int.natCast_inj.1
    have e3 : (2 : Int) ^ k = ((2 ^ k : Nat) : Int) := by simp
    rw [e3, Int.toNat_of_nonneg h4, Int.natCast_emod, Int.toNat_of_nonneg h3]
    exact Int.emod_emod_of_dvd x hd
  show IntKind.i64.wrap ((BitVec.ofInt 64 x &&& BitVec.ofInt 64 (2 ^ k - 1)).toNat : Int) = _
  rw [BitVec.toNat_and, bv_toNat, bv_toNat, e1, Nat.and_two_pow_sub_one_eq_mod, e2, wrap_i64]
  have h4 : 0 ≤ x % (2 : Int) ^ k := Int.emod_nonneg _ (by have : (2 : Int) ^ k = ((2 ^ k : Nat) : Int) := by simp
                                                           omega)
  have h5 : x % (2 : Int) ^ k < 2 ^ k := Int.emod_lt_of_pos _ (by have : (2 : Int) ^ k = ((2 ^ k : Nat) : Int) := by simp
                                                                  omega)
  have : (2 : Int) ^ k = ((2 ^ k : Nat) : Int) := by simp
  split <;> omega
theorem and64_one (n : Nat) : bits .and .i64 (n : Int) 1 = ((n % 2 : Nat) : Int) := by
  have := and64 (n : Int) 1 (by omega)
  rw [show ((2 : Int) ^ 1 - 1) = 1 by decide, show ((2 : Int) ^ 1) = 2 by decide] at this
  rw [this]
  omega
end Go.Proofs.Ytdmkgomcomcfhaa
