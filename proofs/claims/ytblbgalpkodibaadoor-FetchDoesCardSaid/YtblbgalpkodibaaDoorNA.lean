/- Layer 4: of all halves, by reckoning. -/
import Derived.Test.YtblbgalpkodibaaDoorS5
namespace Go.Proofs.YtblbgalpkodibaaDoor
open Go.RowKit

def allB (p : Nat → Bool) : Nat → Nat → Bool
  | 0, b => p b
  | n + 1, b => allB p n b && allB p n (b + 2 ^ n)
theorem allB_spec (p : Nat → Bool) : ∀ (n b : Nat), allB p n b = true → ∀ i, b ≤ i → i < b + 2 ^ n → p i = true
  | 0, b, h, i, h1, h2 => by
    obtain rfl : i = b := by simp at h2; omega
    exact h
  | n + 1, b, h, i, h1, h2 => by
    simp only [allB, Bool.and_eq_true] at h
    have h3 : 2 ^ (n + 1) = 2 ^ n + 2 ^ n := by rw [Nat.pow_succ]; omega
    by_cases hi : i < b + 2 ^ n
    · exact allB_spec p n b h.1 i h1 hi
    · exact allB_spec p n (b + 2 ^ n) h.2 i (by omega) (by omega)
/-- The two lowest bits of what a half stands for. -/
def okA (h : Nat) : Bool := exN h == 0 || and32 (exN h) 3 == 3
theorem okA_0 : allB okA 12 0 = true := by kernel_rfl
theorem okA_1 : allB okA 12 4096 = true := by kernel_rfl
theorem okA_2 : allB okA 12 8192 = true := by kernel_rfl
theorem okA_3 : allB okA 12 12288 = true := by kernel_rfl
theorem okA_4 : allB okA 12 16384 = true := by kernel_rfl
theorem okA_5 : allB okA 12 20480 = true := by kernel_rfl
theorem okA_6 : allB okA 12 24576 = true := by kernel_rfl
theorem okA_7 : allB okA 12 28672 = true := by kernel_rfl
theorem okA_8 : allB okA 12 32768 = true := by kernel_rfl
theorem okA_9 : allB okA 12 36864 = true := by kernel_rfl
theorem okA_10 : allB okA 12 40960 = true := by kernel_rfl
theorem okA_11 : allB okA 12 45056 = true := by kernel_rfl
theorem okA_12 : allB okA 12 49152 = true := by kernel_rfl
theorem okA_13 : allB okA 12 53248 = true := by kernel_rfl
theorem okA_14 : allB okA 12 57344 = true := by kernel_rfl
theorem okA_15 : allB okA 12 61440 = true := by kernel_rfl
theorem ex_low (h : Nat) (hh : h < 65536) : exN h = 0 ∨ and32 (exN h) 3 = 3 := by
  have e : okA h = true := by
    rcases Nat.lt_or_ge h 4096 with q0 | q0
    · exact allB_spec _ _ _ okA_0 h (by omega) (by omega)
    rcases Nat.lt_or_ge h 8192 with q1 | q1
    · exact allB_spec _ _ _ okA_1 h (by omega) (by omega)
    rcases Nat.lt_or_ge h 12288 with q2 | q2
    · exact allB_spec _ _ _ okA_2 h (by omega) (by omega)
    rcases Nat.lt_or_ge h 16384 with q3 | q3
    · exact allB_spec _ _ _ okA_3 h (by omega) (by omega)
    rcases Nat.lt_or_ge h 20480 with q4 | q4
    · exact allB_spec _ _ _ okA_4 h (by omega) (by omega)
    rcases Nat.lt_or_ge h 24576 with q5 | q5
    · exact allB_spec _ _ _ okA_5 h (by omega) (by omega)
    rcases Nat.lt_or_ge h 28672 with q6 | q6
    · exact allB_spec _ _ _ okA_6 h (by omega) (by omega)
    rcases Nat.lt_or_ge h 32768 with q7 | q7
    · exact allB_spec _ _ _ okA_7 h (by omega) (by omega)
    rcases Nat.lt_or_ge h 36864 with q8 | q8
    · exact allB_spec _ _ _ okA_8 h (by omega) (by omega)
    rcases Nat.lt_or_ge h 40960 with q9 | q9
    · exact allB_spec _ _ _ okA_9 h (by omega) (by omega)
    rcases Nat.lt_or_ge h 45056 with q10 | q10
    · exact allB_spec _ _ _ okA_10 h (by omega) (by omega)
    rcases Nat.lt_or_ge h 49152 with q11 | q11
    · exact allB_spec _ _ _ okA_11 h (by omega) (by omega)
    rcases Nat.lt_or_ge h 53248 with q12 | q12
    · exact allB_spec _ _ _ okA_12 h (by omega) (by omega)
    rcases Nat.lt_or_ge h 57344 with q13 | q13
    · exact allB_spec _ _ _ okA_13 h (by omega) (by omega)
    rcases Nat.lt_or_ge h 61440 with q14 | q14
    · exact allB_spec _ _ _ okA_14 h (by omega) (by omega)
    exact allB_spec _ _ _ okA_15 h (by omega) (by omega)
  unfold okA at e
  rcases Bool.or_eq_true _ _ ▸ e with e | e
  · exact .inl (eq_of_beq e)
  · exact .inr (eq_of_beq e)
end Go.Proofs.YtblbgalpkodibaaDoor
