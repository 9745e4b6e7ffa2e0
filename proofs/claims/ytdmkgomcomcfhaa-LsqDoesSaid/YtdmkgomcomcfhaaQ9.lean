/- Layer 23: what a load gets: bytes; runs of shifts. -/
import Derived.Test.YtdmkgomcomcfhaaQ8
import Derived.Test.YtdmkgomcomcfhaaBits2
namespace Go.Proofs.Ytdmkgomcomcfhaa
open Go.RowKit

structure GotS where
  wait : Bool
  mask : Int
  val : Int
def GotS.cs (g : GotS) : List Value := [.bool g.wait, .int .u8 g.mask, .int .u64 g.val]
def GotS.z : GotS := ⟨false, 0, 0⟩
def shD (e s : Ent) (i : Nat) : Nat := ((wrapA e.at_ i - s.at_) % 18446744073709551616).toNat
def byteG (e s : Ent) (i : Nat) : Int := s.v / 2 ^ (8 * shD e s i) % 256
def gotStep (l : List Ent) (e : Ent) (n i : Nat) (G : GotS) : GotS := match giver l (wrapA e.at_ i) n with
  | none => G
  | some g => match l[g]? with
    | some s => ⟨G.wait || !s.data, G.mask + 2 ^ i, G.val + byteG e s i * 2 ^ (8 * i)⟩
    | none => G
def gotN (l : List Ent) (e : Ent) (n : Nat) (w0 : Bool) : Nat → GotS
  | 0 => ⟨w0, 0, 0⟩
  | i + 1 => gotStep l e n i (gotN l e n w0 i)
structure GotS.bd (g : GotS) (i : Nat) : Prop where
  m0 : 0 ≤ g.mask
  m1 : g.mask < 2 ^ i
  v0 : 0 ≤ g.val
  v1 : g.val < 2 ^ (8 * i)
theorem byteG_bd (e s : Ent) (i : Nat) : 0 ≤ byteG e s i ∧ byteG e s i < 256 := by unfold byteG; omega
theorem pow8 (i : Nat) : (2 : Int) ^ (8 * (i + 1)) = 256 * 2 ^ (8 * i) := by
  rw [Nat.mul_add, Int.pow_add, Int.mul_comm]
  rfl
theorem pow1 (i : Nat) : (2 : Int) ^ (i + 1) = 2 * 2 ^ i := by rw [Int.pow_succ, Int.mul_comm]
theorem pow_pos (i : Nat) : (0 : Int) < 2 ^ i := Int.pow_pos (by decide)
theorem gotStep_bd {l : List Ent} {e : Ent} {n i : Nat} {G : GotS} (h : G.bd i) : (gotStep l e n i G).bd (i + 1) := by
  have p1 := pow_pos i
  have p2 := pow_pos (8 * i)
  have hup : G.bd (i + 1) := ⟨h.m0, by rw [pow1]; have := h.m1; omega, h.v0, by rw [pow8]; have := h.v1; omega⟩
  unfold gotStep
  split
  · exact hup
  · split
    · rename_i s _
      obtain ⟨b0, b1⟩ := byteG_bd e s i
      have h3 : byteG e s i * 2 ^ (8 * i) ≤ 255 * 2 ^ (8 * i) := Int.mul_le_mul_of_nonneg_right (by omega) (by omega)
      have h4 : 0 ≤ byteG e s i * 2 ^ (8 * i) := Int.mul_nonneg b0 (by omega)
      exact ⟨by have := h.m0; dsimp only; omega, by dsimp only; rw [pow1]; have := h.m1; omega, by have := h.v0; dsimp only; omega, by dsimp only; rw [pow8]; have := h.v1; omega⟩
    · exact hup
theorem gotN_bd (l : List Ent) (e : Ent) (n : Nat) (w0 : Bool) (i : Nat) : (gotN l e n w0 i).bd i := by
  induction i with
  | zero => exact ⟨by simp [gotN], by simp [gotN], by simp [gotN], by simp [gotN]⟩
  | succ i ih => exact gotStep_bd ih
theorem shr64 (v c : Int) (k : Nat) (hc : c = k) (hk : k ≤ 64) (w : World) : (binOp .shr 28 (.int .u64 v) (.int .u64 c)).run Try.prog w = .ok (.int .u64 (v / 2 ^ k)) w := by
  subst hc
  rw [binOp_shr, shift_shr .u64 .u64 v k (by omega) (by show (k : Int) ≤ ((64 : Nat) : Int); omega)]
  rfl
theorem shl64 (v c : Int) (k : Nat) (hc : c = k) (hk : k ≤ 64) (h0 : 0 ≤ v * 2 ^ k) (h1 : v * 2 ^ k < 18446744073709551616) (w : World) : (binOp .shl 28 (.int .u64 v) (.int .i64 c)).run Try.prog w = .ok (.int .u64 (v * 2 ^ k)) w := by
  subst hc
  rw [binOp_shl, shift_shl .u64 .i64 v k (by omega) (by show (k : Int) ≤ ((64 : Nat) : Int); omega), Int.toNat_natCast, IntKind.wrap_u64, Int.emod_eq_of_lt h0 h1]
  rfl
theorem shl8 (i : Nat) (hi : i < 8) (w : World) : (binOp .shl 5 (.int .u8 1) (.int .i64 (i : Int))).run Try.prog w = .ok (.int .u8 (2 ^ i)) w := by
  have h : i = 0 ∨ i = 1 ∨ i = 2 ∨ i = 3 ∨ i = 4 ∨ i = 5 ∨ i = 6 ∨ i = 7 := by omega
  rcases h with rfl | rfl | rfl | rfl | rfl | rfl | rfl | rfl <;> rfl
theorem and255 (x : Int) (h0 : 0 ≤ x) (h1 : x < 18446744073709551616) (w : World) : (binOp .and 28 (.int .u64 x) (.int .u64 255)).run Try.prog w = .ok (.int .u64 (x % 256)) w := by
  have h : bits .and .u64 x 255 = x % 256 := by
    rw [u64_and x 255 h0 h1 (by omega) (by omega)]
    have : x.toNat &&& (255 : Int).toNat = x.toNat % 256 := Nat.and_two_pow_sub_one_eq_mod x.toNat 8
    rw [this]; omega
  rw [← h]
  rfl
theorem or64 (x y : Int) (k : Nat) (hk : k ≤ 56) (x0 : 0 ≤ x) (x1 : x < 2 ^ k) (y0 : 0 ≤ y) (y1 : y < 256) (w : World) : (binOp .or 28 (.int .u64 x) (.int .u64 (y * 2 ^ k))).run Try.prog w = .ok (.int .u64 (x + y * 2 ^ k)) w := by
  have p1 := pow_pos k
  have p2 : (2 : Int) ^ k ≤ 72057594037927936 := by
    have h1 : 2 ^ k ≤ 2 ^ 56 := Nat.pow_le_pow_right (by decide) hk
    have h2 : (2 : Int) ^ k = ((2 ^ k : Nat) : Int) := by simp
    rw [h2]
    omega
  have h3 : y * 2 ^ k ≤ 255 * 2 ^ k := Int.mul_le_mul_of_nonneg_right (by omega) (by omega)
  have h4 : 0 ≤ y * 2 ^ k := Int.mul_nonneg y0 (by omega)
  have h2 : (2 : Int) ^ k = ((2 ^ k : Nat) : Int) := by simp
  have h : bits .or .u64 x (y * 2 ^ k) = x + y * 2 ^ k := by
    refine u64_orParts' k x (y * 2 ^ k) x0 (by omega) h4 (by omega) (by omega) ?_
    obtain ⟨z, rfl⟩ := Int.eq_ofNat_of_zero_le y0
    rw [h2]
    have h9 : ((z : Int) * ((2 ^ k : Nat) : Int)).toNat = z * 2 ^ k := by
      rw [← Int.natCast_mul]
      rfl
    rw [h9]
    exact Nat.mul_mod_left _ _
  rw [← h]
  rfl
theorem or8 (x : Int) (i : Nat) (hi : i < 8) (x0 : 0 ≤ x) (x1 : x < 2 ^ i) (w : World) : (binOp .or 5 (.int .u8 x) (.int .u8 (2 ^ i))).run Try.prog w = .ok (.int .u8 (x + 2 ^ i)) w := by
  obtain ⟨z, rfl⟩ := Int.eq_ofNat_of_zero_le x0
  have h2 : (2 : Int) ^ i = ((2 ^ i : Nat) : Int) := by simp
  rw [h2] at x1 ⊢
  have h1 : z < 2 ^ i := by have : ((z : Nat) : Int) < ((2 ^ i : Nat) : Int) := x1
                            exact Int.ofNat_lt.1 this
  have p2 : 2 ^ i ≤ 2 ^ 7 := Nat.pow_le_pow_right (by decide) (by omega)
  have h : bits .or .u8 (z : Int) ((2 ^ i : Nat) : Int) = (z : Int) + ((2 ^ i : Nat) : Int) := by
    show IntKind.u8.wrap ((BitVec.ofInt 8 (z : Int) ||| BitVec.ofInt 8 ((2 ^ i : Nat) : Int)).toNat : Int) = _
    have e1 : ((z : Int) % ((2 ^ 8 : Nat) : Int)).toNat = z := by omega
    have e2 : (((2 ^ i : Nat) : Int) % ((2 ^ 8 : Nat) : Int)).toNat = 2 ^ i := by omega
    rw [BitVec.toNat_or, bv_toNat, bv_toNat, e1, e2, Nat.or_comm, nat_or_parts i _ _ (Nat.mod_self _) h1]
    unfold IntKind.wrap
    simp only [IntKind.signed, IntKind.bits, Bool.false_and, Bool.false_eq_true, if_false]
    omega
  show _ = Result.ok (Value.int .u8 ((z : Int) + ((2 ^ i : Nat) : Int))) w
  rw [← h]
  rfl
end Go.Proofs.Ytdmkgomcomcfhaa
