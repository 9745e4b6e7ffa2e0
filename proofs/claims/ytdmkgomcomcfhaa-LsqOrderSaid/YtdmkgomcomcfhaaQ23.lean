/- Layer 23: the plain law of LsqOrder, second half: a place becomes known, the first one leaves, a load's bytes. -/
import Derived.Test.YtdmkgomcomcfhaaQ22
namespace Go.Proofs.Ytdmkgomcomcfhaa
open Go.RowKit

/-! ### one byte of a number -/
theorem nat_and_byte (k y : Nat) : y &&& (255 <<< k) = (y / 2 ^ k % 256) * 2 ^ k := by
  have e : (y / 2 ^ k % 256) * 2 ^ k = ((y >>> k) % 2 ^ 8) <<< k := by rw [Nat.shiftRight_eq_div_pow, Nat.shiftLeft_eq]
  rw [e]
  apply Nat.eq_of_testBit_eq
  intro i
  rw [Nat.testBit_and, Nat.testBit_shiftLeft, show (255 : Nat) = 2 ^ 8 - 1 from rfl, Nat.testBit_two_pow_sub_one, Nat.testBit_shiftLeft, Nat.testBit_mod_two_pow, Nat.testBit_shiftRight]
  by_cases h : k ≤ i
  · rw [show k + (i - k) = i by omega]
    simp [h, Bool.and_comm]
  · simp [h]
theorem nat_and_rest (k x c : Nat) (hk : k ≤ 56) (hx : x < 2 ^ 64) (hc : c = ((2 ^ (56 - k) - 1) <<< (k + 8)) ||| (2 ^ k - 1)) : x &&& c = x / 2 ^ (k + 8) * 2 ^ (k + 8) ||| x % 2 ^ k := by
  rw [hc, Nat.and_or_distrib_left, nat_and_high (k + 8) (56 - k) x (by rw [show k + 8 + (56 - k) = 64 by omega]; exact hx), Nat.and_two_pow_sub_one_eq_mod]
theorem nat_merge' (k x y c : Nat) (hk : k ≤ 56) (hx : x < 2 ^ 64) (hc : c = ((2 ^ (56 - k) - 1) <<< (k + 8)) ||| (2 ^ k - 1)) : ((x &&& c) ||| (y &&& (255 <<< k))) + (x / 2 ^ k % 256) * 2 ^ k = x + (y / 2 ^ k % 256) * 2 ^ k := by
  have p := Nat.two_pow_pos k
  have h1 : x % 2 ^ k < 2 ^ k := Nat.mod_lt _ p
  have h2 : y / 2 ^ k % 256 < 256 := Nat.mod_lt _ (by decide)
  have e8 : 2 ^ (k + 8) = 256 * 2 ^ k := by rw [Nat.pow_add]; omega
  have h3 : (y / 2 ^ k % 256) * 2 ^ k ≤ 255 * 2 ^ k := Nat.mul_le_mul_right _ (by omega)
  rw [nat_and_rest k x c hk hx hc, nat_and_byte, Nat.or_assoc, Nat.or_comm (x % 2 ^ k), nat_or_parts k _ _ (Nat.mul_mod_left _ _) h1, nat_or_parts (k + 8) _ _ (Nat.mul_mod_left _ _) (by omega)]
  have d1 := Nat.div_add_mod x (2 ^ k)
  have d2 := Nat.div_add_mod (x / 2 ^ k) 256
  rw [Nat.div_div_eq_div_mul, Nat.mul_comm (2 ^ k) 256, ← e8] at d2
  have d3 : 2 ^ k * (x / 2 ^ k) = 2 ^ k * (256 * (x / 2 ^ (k + 8)) + x / 2 ^ k % 256) := by rw [d2]
  rw [Nat.mul_add] at d3
  have d4 : 2 ^ k * (256 * (x / 2 ^ (k + 8))) = x / 2 ^ (k + 8) * 2 ^ (k + 8) := by rw [e8, ← Nat.mul_assoc, Nat.mul_comm (2 ^ k) 256, Nat.mul_comm]
  have d5 : 2 ^ k * (x / 2 ^ k % 256) = x / 2 ^ k % 256 * 2 ^ k := Nat.mul_comm _ _
  omega
theorem mergeByte (x y : Int) (j : Nat) (hj : j < 8) (x0 : 0 ≤ x) (x1 : x < 18446744073709551616) (y0 : 0 ≤ y) (y1 : y < 18446744073709551616) :
    bits .or .u64 (bits .andNot .u64 x (255 * 2 ^ (8 * j))) (bits .and .u64 y (255 * 2 ^ (8 * j))) = x + (y / 2 ^ (8 * j) % 256 - x / 2 ^ (8 * j) % 256) * 2 ^ (8 * j) := by
  obtain ⟨X, rfl⟩ := Int.eq_ofNat_of_zero_le x0
  obtain ⟨Y, rfl⟩ := Int.eq_ofNat_of_zero_le y0
  have hX : X < 2 ^ 64 := by omega
  have hY : Y < 2 ^ 64 := by omega
  have hm : (255 : Int) * (2 : Int) ^ (8 * j) = ((255 <<< (8 * j) : Nat) : Int) := by rw [Nat.shiftLeft_eq]; simp
  have hb : 255 <<< (8 * j) < 18446744073709551616 ∧ 18446744073709551615 - 255 <<< (8 * j) = ((2 ^ (56 - 8 * j) - 1) <<< (8 * j + 8)) ||| (2 ^ (8 * j) - 1) := by
    have h : j = 0 ∨ j = 1 ∨ j = 2 ∨ j = 3 ∨ j = 4 ∨ j = 5 ∨ j = 6 ∨ j = 7 := by omega
    rcases h with rfl | rfl | rfl | rfl | rfl | rfl | rfl | rfl <;> decide
  have ha : X &&& (18446744073709551615 - 255 <<< (8 * j)) < 18446744073709551616 := Nat.lt_of_le_of_lt Nat.and_le_left hX
  have hc : Y &&& (255 <<< (8 * j)) < 18446744073709551616 := Nat.lt_of_le_of_lt Nat.and_le_left hY
  rw [hm, u64_andNot_nat X _ hX hb.1, u64_and_nat Y _ hY hb.1, u64_or_nat _ _ ha hc]
  have := nat_merge' (8 * j) X Y _ (by omega) hX hb.2
  have p : ((2 ^ (8 * j) : Nat) : Int) = (2 : Int) ^ (8 * j) := by simp
  have q : ((Y : Int) / (2 : Int) ^ (8 * j) % 256 - (X : Int) / (2 : Int) ^ (8 * j) % 256) * (2 : Int) ^ (8 * j) = (((Y / 2 ^ (8 * j) % 256) * 2 ^ (8 * j) : Nat) : Int) - (((X / 2 ^ (8 * j) % 256) * 2 ^ (8 * j) : Nat) : Int) := by
    rw [Int.sub_mul, ← p]
    simp
  rw [q]
  omega
theorem rdM_byte {M : Nat → Int} (h : BM M) (a : Nat) : ∀ {z j : Nat}, j < z → rdM M a z / 2 ^ (8 * j) % 256 = M (a + j) := by
  intro z
  induction z with
  | zero => intro j hj; omega
  | succ z ih =>
    intro j hj
    rw [rdM_succ]
    obtain ⟨r0, r1⟩ := rdM_bd h a z
    obtain ⟨m0, m1⟩ := h (a + z)
    have p := pow_pos (8 * j)
    by_cases e : j = z
    · subst e
      rw [Int.add_mul_ediv_right _ _ (by omega), Int.ediv_eq_zero_of_lt r0 r1]
      omega
    · have e2 : M (a + z) * 2 ^ (8 * z) = (M (a + z) * 2 ^ (8 * (z - j - 1)) * 256) * 2 ^ (8 * j) := by
        have : (2 : Int) ^ (8 * z) = 2 ^ (8 * (z - j - 1)) * 256 * 2 ^ (8 * j) := by
          rw [show (256 : Int) = 2 ^ 8 from rfl, ← Int.pow_add, ← Int.pow_add]
          congr 1
          omega
        rw [this, Int.mul_assoc, Int.mul_assoc, Int.mul_assoc]
      rw [e2, Int.add_mul_ediv_right _ _ (by omega), ← ih (show j < z by omega)]
      omega
theorem wantN_bit (K : Nat → Int) (a : Nat) : ∀ {z j : Nat}, j < z → wantN K a z / 2 ^ j % 2 = if 0 < K (a + j) then 1 else 0 := by
  intro z
  induction z with
  | zero => intro j hj; omega
  | succ z ih =>
    intro j hj
    rw [wantN_succ]
    obtain ⟨r0, r1⟩ := wantN_bd K a z
    have p := pow_pos j
    by_cases e : j = z
    · subst e
      split
      · have : wantN K a j + 2 ^ j = wantN K a j + 1 * 2 ^ j := by omega
        rw [this, Int.add_mul_ediv_right _ _ (by omega), Int.ediv_eq_zero_of_lt r0 r1]
        rfl
      · rw [Int.add_zero, Int.ediv_eq_zero_of_lt r0 r1]
        rfl
    · have hz : j < z := by omega
      rw [← ih hz]
      split
      · have e2 : (2 : Int) ^ z = (2 ^ (z - j - 1) * 2) * 2 ^ j := by
          rw [show ((2 : Int) ^ (z - j - 1) * 2) = 2 ^ (z - j - 1) * 2 ^ 1 from rfl, ← Int.pow_add, ← Int.pow_add]
          congr 1
          omega
        rw [e2, Int.add_mul_ediv_right _ _ (by omega)]
        omega
      · rw [Int.add_zero]
/-- One byte is another one. -/
theorem rdM_upd {M : Nat → Int} {a : Nat} {x : Int} : ∀ {z j : Nat}, j < z → rdM (fun i => if i = a + j then x else M i) a z = rdM M a z + (x - M (a + j)) * 2 ^ (8 * j) := by
  intro z
  induction z with
  | zero => intro j hj; omega
  | succ z ih =>
    intro j hj
    rw [rdM_succ, rdM_succ]
    by_cases e : j = z
    · subst e
      rw [if_pos rfl, rdM_ext (M' := M) (fun b hb => if_neg (by omega)), Int.sub_mul]
      omega
    · rw [if_neg (by omega), ih (show j < z by omega)]
      omega
/-- What the loop over a load's bytes makes: the first b bytes are of the stores where these have them. -/
def mixM (K B m : Nat → Int) (a b : Nat) : Nat → Int := fun i => if i < a + b ∧ 0 < K i then B i else m i
theorem mixM_bm {K B m : Nat → Int} (hB : BM B) (hm : BM m) (a b : Nat) : BM (mixM K B m a b) := by
  intro i
  unfold mixM
  split
  · exact hB i
  · exact hm i
theorem mix_start (K B m : Nat → Int) (a z : Nat) : rdM (mixM K B m a 0) a z = rdM m a z := rdM_ext fun b _ => by unfold mixM; rw [if_neg (by omega)]
theorem mix_no {K B m : Nat → Int} {a b z : Nat} (h : ¬ 0 < K (a + b)) : rdM (mixM K B m a (b + 1)) a z = rdM (mixM K B m a b) a z := rdM_ext fun i _ => by
  unfold mixM
  by_cases e : i = b
  · subst e; rw [if_neg (fun h2 => h h2.2), if_neg (fun h2 => h h2.2)]
  · by_cases h2 : a + i < a + b ∧ 0 < K (a + i)
    · rw [if_pos h2, if_pos ⟨by omega, h2.2⟩]
    · rw [if_neg h2, if_neg (fun h3 => h2 ⟨by omega, h3.2⟩)]
theorem mix_yes {K B m : Nat → Int} (hB : BM B) (hm : BM m) {a b z : Nat} (hz : z ≤ 8) (hb : b < z) (h : 0 < K (a + b)) :
    bits .or .u64 (bits .andNot .u64 (rdM (mixM K B m a b) a z) (255 * 2 ^ (8 * b))) (bits .and .u64 (rdM B a z) (255 * 2 ^ (8 * b))) = rdM (mixM K B m a (b + 1)) a z := by
  have hM := mixM_bm (K := K) hB hm a b
  obtain ⟨r0, r1⟩ := rdM_bd hM a z
  obtain ⟨s0, s1⟩ := rdM_bd hB a z
  have p : (2 : Int) ^ (8 * z) ≤ 18446744073709551616 := by
    have h1 : 2 ^ (8 * z) ≤ 2 ^ 64 := Nat.pow_le_pow_right (by decide) (by omega)
    have h2 : (2 : Int) ^ (8 * z) = ((2 ^ (8 * z) : Nat) : Int) := by simp
    rw [h2]; omega
  rw [mergeByte _ _ b (by omega) r0 (by omega) s0 (by omega), rdM_byte hM a hb, rdM_byte hB a hb, ← rdM_upd hb]
  refine rdM_ext fun i _ => ?_
  unfold mixM
  by_cases e : i = b
  · subst e
    rw [if_pos rfl, if_pos ⟨by omega, h⟩]
  · rw [if_neg (by omega)]
    by_cases h2 : a + i < a + b ∧ 0 < K (a + i)
    · rw [if_pos h2, if_pos ⟨by omega, h2.2⟩]
    · rw [if_neg h2, if_neg (fun h3 => h2 ⟨by omega, h3.2⟩)]
end Go.Proofs.Ytdmkgomcomcfhaa
