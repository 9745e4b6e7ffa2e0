/- Layer 13: the document's small functions. -/
import Derived.Test.YtijhlbkhcpkkdaaP11
namespace Go.Proofs.Ytijhlbkhcpkkdaa
open Go.RowKit

def rbit (m n : Int) : Bool := bits .and .u64 (m / 2 ^ n.toNat) 1 == 1
def rone (n : Int) : Int := IntKind.u64.wrap (2 ^ n.toNat)
def rwith (m n : Int) (b : Bool) : Int := bif b then bits .or .u64 (bits .andNot .u64 m (rone n)) (rone n) else bits .andNot .u64 m (rone n)
theorem rmode_any (m : Int) (w : World) : Calls Try.prog 17 #[.int .i64 m] w fun r w' => r = .returned (.int .i64 (known m)) ∧ w' = w := by
  go_enter Try.func17, Try.ntmps17
  by_cases h3 : m = 3
  · subst h3
    go_wp2
    go_ret
    exact ⟨rfl, rfl⟩
  · by_cases h1 : m = 1
    · subst h1
      go_wp2
      go_ret
      exact ⟨rfl, rfl⟩
    · have z3 : (m == 3) = false := beq_eq_false_iff_ne.2 h3
      have z1 : (m == 1) = false := beq_eq_false_iff_ne.2 h1
      go_wp2
      go_ret
      exact ⟨by unfold known; rw [if_neg (by omega)]; rfl, rfl⟩
theorem rbit_any (m n : Int) (h0 : 0 ≤ n) (h1 : n < 64) (w : World) : Calls Try.prog 18 #[.int .u64 m, .int .i64 n] w fun r w' => r = .returned (.bool (rbit m n)) ∧ w' = w := by
  have hn : n.toNat < 64 := by omega
  go_enter Try.func18, Try.ntmps18
  go_wp2
  go_ret
  exact ⟨rfl, rfl⟩
theorem rwith_any (m n : Int) (b : Bool) (h0 : 0 ≤ n) (h1 : n < 64) (w : World) : Calls Try.prog 19 #[.int .u64 m, .int .i64 n, .bool b] w fun r w' => r = .returned (.int .u64 (rwith m n b)) ∧ w' = w := by
  have hn : n.toNat < 64 := by omega
  go_enter Try.func19, Try.ntmps19
  cases b
  · go_wp2
    go_ret
    exact ⟨rfl, rfl⟩
  · go_wp2
    go_ret
    exact ⟨rfl, rfl⟩
theorem rbit_tb (m : Int) (n : Nat) (m0 : 0 ≤ m) (m1 : m < 18446744073709551616) : rbit m n = tb m n := by
  unfold rbit tb
  have hp : (0 : Int) < 2 ^ n := Int.pow_pos (by decide)
  have hd0 : 0 ≤ m / 2 ^ n := Int.ediv_nonneg m0 (by omega)
  have hd1 := Int.ediv_le_self (2 ^ n) m0
  rw [Int.toNat_natCast, u64_mask1 _ hd0 (by omega)]
  obtain ⟨a, rfl⟩ : ∃ a : Nat, m = a := ⟨m.toNat, by omega⟩
  rw [Int.toNat_natCast, Nat.testBit_eq_decide_div_mod_eq]
  have : ((a : Int) / 2 ^ n % 2 = 1) ↔ a / 2 ^ n % 2 = 1 := by
    rw [show ((a : Int) / 2 ^ n % 2) = ((a / 2 ^ n % 2 : Nat) : Int) by push_cast; rfl]
    omega
  by_cases h : a / 2 ^ n % 2 = 1
  · rw [this.2 h]; simp [h]
  · have h' : ¬ ((a : Int) / 2 ^ n % 2 = 1) := fun e => h (this.1 e)
    simp [h, h']
theorem rone_eq (n : Nat) (hn : n < 64) : rone n = ((2 ^ n : Nat) : Int) := by
  unfold rone
  have hp : (2 : Nat) ^ n < 18446744073709551616 := by
    have := Nat.pow_lt_pow_right (a := 2) (by omega) hn
    omega
  have h2 : ((2 : Int) ^ n) = ((2 ^ n : Nat) : Int) := by push_cast; rfl
  rw [Int.toNat_natCast, h2]
  generalize 2 ^ n = p at *
  rw [IntKind.wrap_u64]
  omega
theorem rone_bd (n : Nat) (hn : n < 64) : 0 ≤ rone n ∧ rone n < 18446744073709551616 := by
  rw [rone_eq n hn]
  have hp : (2 : Nat) ^ n < 18446744073709551616 := by
    have := Nat.pow_lt_pow_right (a := 2) (by omega) hn
    omega
  generalize 2 ^ n = p at *
  omega
theorem rwith_bd (m : Int) (n : Nat) (b : Bool) (hn : n < 64) (m0 : 0 ≤ m) (m1 : m < 18446744073709551616) : 0 ≤ rwith m n b ∧ rwith m n b < 18446744073709551616 := by
  have h1 := rone_bd n hn
  have h2 := andNot_bd m (rone n) m0 m1 h1.1 h1.2
  cases b
  · exact h2
  · exact or_bd _ _ h2.1 h2.2 h1.1 h1.2
theorem tb_rone (n i : Nat) (hn : n < 64) : tb (rone n) i = decide (n = i) := by
  unfold tb
  rw [rone_eq n hn, Int.toNat_natCast, Nat.testBit_two_pow]
theorem tb_rwith (m : Int) (n : Nat) (b : Bool) (i : Nat) (hn : n < 64) (hi : i < 64) (m0 : 0 ≤ m) (m1 : m < 18446744073709551616) : tb (rwith m n b) i = if n = i then b else tb m i := by
  have h1 := rone_bd n hn
  have h2 := andNot_bd m (rone n) m0 m1 h1.1 h1.2
  have h3 := tb_andNot m (rone n) i hi m0 m1 h1.1 h1.2
  rw [tb_rone n i hn] at h3
  cases b
  · show tb (bits .andNot .u64 m (rone n)) i = _
    rw [h3]
    by_cases e : n = i <;> simp [e]
  · show tb (bits .or .u64 (bits .andNot .u64 m (rone n)) (rone n)) i = _
    rw [tb_or _ _ i h2.1 h2.2 h1.1 h1.2, h3, tb_rone n i hn]
    by_cases e : n = i <;> simp [e]
theorem rvector_any (t cause : Int) (t0 : 0 ≤ t) (t1 : t < 18446744073709551616) (c0 : 0 ≤ cause) (c1 : cause < 18446744073709551616) (w : World) : Calls Try.prog 20 #[.int .u64 t, .int .u64 cause] w fun r w' => r = .returned (.int .u64 (vector t cause)) ∧ w' = w := by
  have e2 := not3 t t0 t1
  have hA : rbit t 0 = decide (t % 2 = 1) := by
    unfold rbit
    rw [show t / 2 ^ (0 : Int).toNat = t by simp, u64_mask1 t t0 t1]
    by_cases h : t % 2 = 1 <;> simp [h]
  have hB : rbit cause 63 = decide (9223372036854775808 ≤ cause) := by
    unfold rbit
    rw [show (2 : Int) ^ (63 : Int).toNat = 9223372036854775808 from rfl, u64_mask1 _ (by omega) (by omega)]
    have : cause / 9223372036854775808 % 2 = 1 ↔ 9223372036854775808 ≤ cause := by omega
    by_cases h : 9223372036854775808 ≤ cause
    · rw [this.2 h]; simp [h]
    · have h' : ¬ cause / 9223372036854775808 % 2 = 1 := fun e => h (this.1 e)
      simp [h, h']
  have e3 : bits .andNot .u64 cause 9223372036854775808 = cause % 9223372036854775808 := by
    rw [u64_andNot cause 9223372036854775808 c0 c1 (by omega) (by omega)]
    have : cause.toNat &&& (18446744073709551615 - (9223372036854775808 : Int).toNat) = cause.toNat % 9223372036854775808 := Nat.and_two_pow_sub_one_eq_mod cause.toNat 63
    rw [this]; omega
  go_enter Try.func20, Try.ntmps20
  by_cases h1 : t % 2 = 1
  · by_cases h2 : 9223372036854775808 ≤ cause
    · rw [decide_eq_true h1] at hA
      rw [decide_eq_true h2] at hB
      go_wp2_with (go_at_call 18; refine (rbit_any _ _ (by decide) (by decide) _).mono ?_; (first | rw [hA] | rw [hB]); rintro _ _ ⟨rfl, rfl⟩)
      go_ret
      refine ⟨?_, rfl⟩
      unfold vector
      rw [if_pos ⟨h1, h2⟩]
      have : IntKind.u64.wrap (t / 4 * 4 + IntKind.u64.wrap (4 * (cause % 9223372036854775808))) = (t / 4 * 4 + cause * 4) % 18446744073709551616 := by simp only [IntKind.wrap_u64]; omega
      show Ending.returned (.int .u64 _) = _
      rw [← this]
    · rw [decide_eq_true h1] at hA
      rw [decide_eq_false h2] at hB
      go_wp2_with (go_at_call 18; refine (rbit_any _ _ (by decide) (by decide) _).mono ?_; (first | rw [hA] | rw [hB]); rintro _ _ ⟨rfl, rfl⟩)
      go_ret
      exact ⟨by unfold vector; rw [if_neg (by omega)]; rfl, rfl⟩
  · rw [decide_eq_false h1] at hA
    go_wp2_with (go_at_call 18; refine (rbit_any _ _ (by decide) (by decide) _).mono ?_; rw [hA]; rintro _ _ ⟨rfl, rfl⟩)
    go_ret
    exact ⟨by unfold vector; rw [if_neg (by omega)]; rfl, rfl⟩
end Go.Proofs.Ytijhlbkhcpkkdaa
