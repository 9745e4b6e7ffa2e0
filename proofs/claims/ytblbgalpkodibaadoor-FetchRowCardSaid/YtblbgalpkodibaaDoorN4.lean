/- Layer 4: both tables are one. -/
import Derived.Test.YtblbgalpkodibaaDoorN3A
import Derived.Test.YtblbgalpkodibaaDoorN3B
import Derived.Test.YtblbgalpkodibaaDoorN3C
import Derived.Test.YtblbgalpkodibaaDoorN3D
namespace Go.Proofs.YtblbgalpkodibaaDoor

theorem both (h : Nat) (hh : h < 65536) : okD h = true := by
  rcases Nat.lt_or_ge h 2048 with q0 | q0
  · exact allB_spec _ _ _ okD_0 h (by omega) (by omega)
  rcases Nat.lt_or_ge h 4096 with q1 | q1
  · exact allB_spec _ _ _ okD_1 h (by omega) (by omega)
  rcases Nat.lt_or_ge h 6144 with q2 | q2
  · exact allB_spec _ _ _ okD_2 h (by omega) (by omega)
  rcases Nat.lt_or_ge h 8192 with q3 | q3
  · exact allB_spec _ _ _ okD_3 h (by omega) (by omega)
  rcases Nat.lt_or_ge h 10240 with q4 | q4
  · exact allB_spec _ _ _ okD_4 h (by omega) (by omega)
  rcases Nat.lt_or_ge h 12288 with q5 | q5
  · exact allB_spec _ _ _ okD_5 h (by omega) (by omega)
  rcases Nat.lt_or_ge h 14336 with q6 | q6
  · exact allB_spec _ _ _ okD_6 h (by omega) (by omega)
  rcases Nat.lt_or_ge h 16384 with q7 | q7
  · exact allB_spec _ _ _ okD_7 h (by omega) (by omega)
  rcases Nat.lt_or_ge h 18432 with q8 | q8
  · exact allB_spec _ _ _ okD_8 h (by omega) (by omega)
  rcases Nat.lt_or_ge h 20480 with q9 | q9
  · exact allB_spec _ _ _ okD_9 h (by omega) (by omega)
  rcases Nat.lt_or_ge h 22528 with q10 | q10
  · exact allB_spec _ _ _ okD_10 h (by omega) (by omega)
  rcases Nat.lt_or_ge h 24576 with q11 | q11
  · exact allB_spec _ _ _ okD_11 h (by omega) (by omega)
  rcases Nat.lt_or_ge h 26624 with q12 | q12
  · exact allB_spec _ _ _ okD_12 h (by omega) (by omega)
  rcases Nat.lt_or_ge h 28672 with q13 | q13
  · exact allB_spec _ _ _ okD_13 h (by omega) (by omega)
  rcases Nat.lt_or_ge h 30720 with q14 | q14
  · exact allB_spec _ _ _ okD_14 h (by omega) (by omega)
  rcases Nat.lt_or_ge h 32768 with q15 | q15
  · exact allB_spec _ _ _ okD_15 h (by omega) (by omega)
  rcases Nat.lt_or_ge h 34816 with q16 | q16
  · exact allB_spec _ _ _ okD_16 h (by omega) (by omega)
  rcases Nat.lt_or_ge h 36864 with q17 | q17
  · exact allB_spec _ _ _ okD_17 h (by omega) (by omega)
  rcases Nat.lt_or_ge h 38912 with q18 | q18
  · exact allB_spec _ _ _ okD_18 h (by omega) (by omega)
  rcases Nat.lt_or_ge h 40960 with q19 | q19
  · exact allB_spec _ _ _ okD_19 h (by omega) (by omega)
  rcases Nat.lt_or_ge h 43008 with q20 | q20
  · exact allB_spec _ _ _ okD_20 h (by omega) (by omega)
  rcases Nat.lt_or_ge h 45056 with q21 | q21
  · exact allB_spec _ _ _ okD_21 h (by omega) (by omega)
  rcases Nat.lt_or_ge h 47104 with q22 | q22
  · exact allB_spec _ _ _ okD_22 h (by omega) (by omega)
  rcases Nat.lt_or_ge h 49152 with q23 | q23
  · exact allB_spec _ _ _ okD_23 h (by omega) (by omega)
  rcases Nat.lt_or_ge h 51200 with q24 | q24
  · exact allB_spec _ _ _ okD_24 h (by omega) (by omega)
  rcases Nat.lt_or_ge h 53248 with q25 | q25
  · exact allB_spec _ _ _ okD_25 h (by omega) (by omega)
  rcases Nat.lt_or_ge h 55296 with q26 | q26
  · exact allB_spec _ _ _ okD_26 h (by omega) (by omega)
  rcases Nat.lt_or_ge h 57344 with q27 | q27
  · exact allB_spec _ _ _ okD_27 h (by omega) (by omega)
  rcases Nat.lt_or_ge h 59392 with q28 | q28
  · exact allB_spec _ _ _ okD_28 h (by omega) (by omega)
  rcases Nat.lt_or_ge h 61440 with q29 | q29
  · exact allB_spec _ _ _ okD_29 h (by omega) (by omega)
  rcases Nat.lt_or_ge h 63488 with q30 | q30
  · exact allB_spec _ _ _ okD_30 h (by omega) (by omega)
  exact allB_spec _ _ _ okD_31 h (by omega) (by omega)
theorem rex_eq (h : Nat) (hh : h < 65536) : rexN h = exN h := by
  have e := both h hh
  unfold okD at e
  rw [Bool.and_eq_true] at e
  exact (Nat.eq_of_beq_eq_true e.1).symm
theorem short_eq (h : Nat) (hh : h < 65536) : (and16 h 3 != 3) = decide (prt h 1 0 < 3) := by
  have e := both h hh
  unfold okD at e
  rw [Bool.and_eq_true] at e
  have e2 := eq_of_beq e.2
  rw [e2]
  cases hb : Nat.blt (prt h 1 0) 3 with
  | true => exact (decide_eq_true (Nat.blt_eq.mp hb)).symm
  | false =>
    refine (decide_eq_false fun hl => ?_).symm
    rw [Nat.blt_eq.mpr hl] at hb
    cases hb
end Go.Proofs.YtblbgalpkodibaaDoor
