/- Layer 13: a trap leaves all else alone: the walk. -/
import Derived.Test.YtijhlbkhcpkkdaaP9
import Derived.Test.YtijhlbkhcpkkdaaRegionS
namespace Go.Proofs.Ytijhlbkhcpkkdaa
open Go.RowKit

def est (c d : St) (r1 r2 r3 : Nat) (f : Nat → Bool) : St := fun j => if (j = r1 ∧ f 7 = true) ∨ (j = r2 ∧ f 9 = true) ∨ (j = r3 ∧ f 11 = true) then c j else d j
theorem est_none (c d : St) (r1 r2 r3 : Nat) : est c d r1 r2 r3 (fun _ => false) = d := by funext j; simp [est]
theorem est_A {c d : St} {r1 r2 r3 : Nat} {f : Nat → Bool} (h : r1 ≠ r2 ∧ r1 ≠ r3 ∧ r2 ≠ r3) : est c d r1 r2 r3 (fun s => if s = 7 then true else f s) = upd (est c d r1 r2 r3 f) r1 (c r1) := by
  funext j; unfold est upd
  by_cases hj : j = r1
  · subst hj; simp
  · simp [hj]
theorem est_B {c d : St} {r1 r2 r3 : Nat} {f : Nat → Bool} (h : r1 ≠ r2 ∧ r1 ≠ r3 ∧ r2 ≠ r3) : est c d r1 r2 r3 (fun s => if s = 9 then true else f s) = upd (est c d r1 r2 r3 f) r2 (c r2) := by
  funext j; unfold est upd
  by_cases hj : j = r2
  · subst hj; simp
  · simp [hj]
theorem est_C {c d : St} {r1 r2 r3 : Nat} {f : Nat → Bool} (h : r1 ≠ r2 ∧ r1 ≠ r3 ∧ r2 ≠ r3) : est c d r1 r2 r3 (fun s => if s = 11 then true else f s) = upd (est c d r1 r2 r3 f) r3 (c r3) := by
  funext j; unfold est upd
  by_cases hj : j = r3
  · subst hj; simp
  · simp [hj]
theorem ext_tb {x y : Int} (x0 : 0 ≤ x) (x1 : x < 18446744073709551616) (y0 : 0 ≤ y) (y1 : y < 18446744073709551616) (h : ∀ i, i < 64 → tb x i = tb y i) : x = y := by
  have : x.toNat = y.toNat := by
    apply Nat.eq_of_testBit_eq
    intro i
    by_cases hi : i < 64
    · exact h i hi
    · have hp : (2 : Nat) ^ 64 ≤ 2 ^ i := Nat.pow_le_pow_right (by omega) (by omega)
      rw [Nat.testBit_lt_two_pow (Nat.lt_of_lt_of_le (by omega) hp), Nat.testBit_lt_two_pow (Nat.lt_of_lt_of_le (by omega) hp)]
  omega
theorem own_sup (m k : Int) (m0 : 0 ≤ m) (m1 : m < 18446744073709551616) (hk : k = 0 ∨ k = 1) : bits .andNot .u64 (mSup m k) 290 = bits .andNot .u64 m 290 := by
  have hb := mSup_bd m k m0 m1 hk
  have a := andNot_bd (mSup m k) 290 hb.1 hb.2 (by decide) (by decide)
  have b := andNot_bd m 290 m0 m1 (by decide) (by decide)
  refine ext_tb a.1 a.2 b.1 b.2 fun i hi => ?_
  rw [tb_andNot _ 290 i hi hb.1 hb.2 (by decide) (by decide), tb_andNot m 290 i hi m0 m1 (by decide) (by decide), tb_mSup m k i hi m0 m1 hk]
  have hv : tb (bi (tb m 1) 32 + k * 256) i = true → tb 290 i = true := by
    have key : ∀ (b : Bool) (k : Int), (k = 0 ∨ k = 1) → ∀ i, i < 64 → tb (bi b 32 + k * 256) i = true → tb 290 i = true := by
      intro b k hk
      rcases hk with rfl | rfl <;> cases b <;> decide
    exact key _ k hk i hi
  cases h1 : tb 290 i <;> cases h2 : tb (bi (tb m 1) 32 + k * 256) i <;> cases tb m i <;> simp_all
theorem own_mach (m k : Int) (m0 : 0 ≤ m) (m1 : m < 18446744073709551616) (hk : k = 0 ∨ k = 1 ∨ k = 3) : bits .andNot .u64 (mMach m k) 6280 = bits .andNot .u64 m 6280 := by
  have hb := mMach_bd m k m0 m1 hk
  have a := andNot_bd (mMach m k) 6280 hb.1 hb.2 (by decide) (by decide)
  have b := andNot_bd m 6280 m0 m1 (by decide) (by decide)
  refine ext_tb a.1 a.2 b.1 b.2 fun i hi => ?_
  rw [tb_andNot _ 6280 i hi hb.1 hb.2 (by decide) (by decide), tb_andNot m 6280 i hi m0 m1 (by decide) (by decide), tb_mMach m k i hi m0 m1 hk]
  have hv : tb (bi (tb m 3) 128 + k * 2048) i = true → tb 6280 i = true := by
    have key : ∀ (b : Bool) (k : Int), (k = 0 ∨ k = 1 ∨ k = 3) → ∀ i, i < 64 → tb (bi b 128 + k * 2048) i = true → tb 6280 i = true := by
      intro b k hk
      rcases hk with rfl | rfl | rfl <;> cases b <;> decide
    exact key _ k hk i hi
  cases h1 : tb 6280 i <;> cases h2 : tb (bi (tb m 3) 128 + k * 2048) i <;> cases tb m i <;> simp_all
theorem rOut_c (c : St) (kind : Int) : upd (rOut c kind).1 0 (c 0) = c := by
  have key : ∀ x, upd (upd c 0 x) 0 (c 0) = c := fun x => by
    funext j; unfold upd
    by_cases hj : j = 0
    · subst hj; simp
    · simp [hj]
  unfold rOut
  split
  · exact key _
  · split
    · exact key _
    · funext j; unfold upd
      by_cases hj : j = 0
      · subst hj; simp
      · simp [hj]
end Go.Proofs.Ytijhlbkhcpkkdaa
