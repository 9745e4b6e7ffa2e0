/- Layer 4: both tables, of a half. / Layer 4: both tables, of the halves of quarter 0, by reckoning. / Layer 4: both tables, of the halves of quarter 1, by reckoning. / Layer 4: both tables, of the halves of quarter 2, by reckoning. / Layer 4: both tables, of the halves of quarter 3, by reckoning. / Layer 4: both tables are one. / Layer 4: as the document has it: the walks. -/
import Derived.Test.YtblbgalpkodibaaDoorR7
import Derived.Test.YtblbgalpkodibaaDoorNA
namespace Go.Proofs.YtblbgalpkodibaaDoor

def okD (h : Nat) : Bool := Nat.beq (exN h) (rexN h) && (and16 h 3 != 3) == Nat.blt (prt h 1 0) 3
end Go.Proofs.YtblbgalpkodibaaDoor
namespace Go.Proofs.YtblbgalpkodibaaDoor

theorem okD_0 : allB okD 11 0 = true := by kernel_rfl
theorem okD_1 : allB okD 11 2048 = true := by kernel_rfl
theorem okD_2 : allB okD 11 4096 = true := by kernel_rfl
theorem okD_3 : allB okD 11 6144 = true := by kernel_rfl
theorem okD_4 : allB okD 11 8192 = true := by kernel_rfl
theorem okD_5 : allB okD 11 10240 = true := by kernel_rfl
theorem okD_6 : allB okD 11 12288 = true := by kernel_rfl
theorem okD_7 : allB okD 11 14336 = true := by kernel_rfl
end Go.Proofs.YtblbgalpkodibaaDoor
namespace Go.Proofs.YtblbgalpkodibaaDoor

theorem okD_8 : allB okD 11 16384 = true := by kernel_rfl
theorem okD_9 : allB okD 11 18432 = true := by kernel_rfl
theorem okD_10 : allB okD 11 20480 = true := by kernel_rfl
theorem okD_11 : allB okD 11 22528 = true := by kernel_rfl
theorem okD_12 : allB okD 11 24576 = true := by kernel_rfl
theorem okD_13 : allB okD 11 26624 = true := by kernel_rfl
theorem okD_14 : allB okD 11 28672 = true := by kernel_rfl
theorem okD_15 : allB okD 11 30720 = true := by kernel_rfl
end Go.Proofs.YtblbgalpkodibaaDoor
namespace Go.Proofs.YtblbgalpkodibaaDoor

theorem okD_16 : allB okD 11 32768 = true := by kernel_rfl
theorem okD_17 : allB okD 11 34816 = true := by kernel_rfl
theorem okD_18 : allB okD 11 36864 = true := by kernel_rfl
theorem okD_19 : allB okD 11 38912 = true := by kernel_rfl
theorem okD_20 : allB okD 11 40960 = true := by kernel_rfl
theorem okD_21 : allB okD 11 43008 = true := by kernel_rfl
theorem okD_22 : allB okD 11 45056 = true := by kernel_rfl
theorem okD_23 : allB okD 11 47104 = true := by kernel_rfl
end Go.Proofs.YtblbgalpkodibaaDoor
namespace Go.Proofs.YtblbgalpkodibaaDoor

theorem okD_24 : allB okD 11 49152 = true := by kernel_rfl
theorem okD_25 : allB okD 11 51200 = true := by kernel_rfl
theorem okD_26 : allB okD 11 53248 = true := by kernel_rfl
theorem okD_27 : allB okD 11 55296 = true := by kernel_rfl
theorem okD_28 : allB okD 11 57344 = true := by kernel_rfl
theorem okD_29 : allB okD 11 59392 = true := by kernel_rfl
theorem okD_30 : allB okD 11 61440 = true := by kernel_rfl
theorem okD_31 : allB okD 11 63488 = true := by kernel_rfl
end Go.Proofs.YtblbgalpkodibaaDoor
namespace Go.Proofs.YtblbgalpkodibaaDoor

theorem both (h : Nat) (hh : h < 65536) : okD h = true := by
  rcases Nat.lt_or_ge h 2048 with q0 | q0
  · exact allB_spec _ _ _ okD_0 h (by omega) (by omega)
  rcases Nat.lt_or_ge h 4096 with q1 | q1
  · exact allB_spec _ _ _ okD_1 h (by omega) (by omega)
  rcases Nat.lt_or_ge h 6144 with q2 | q2
  · exact allB_spec _ _ _ okD_2 h (by omega) (by omega)
  rcases Nat.lt_or_ge h 8192 with q3 | q3
  · exact allB_spec _ _ _ okD_3 h (by omega) (by omega)
  rcases Nat.lt_or_ge h 10240 with q4 | q4
  · exact allB_spec _ _ _ okD_4 h (by omega) (by omega)
  rcases Nat.lt_or_ge h 12288 with q5 | q5
  · exact allB_spec _ _ _ okD_5 h (by omega) (by omega)
  rcases Nat.lt_or_ge h 14336 with q6 | q6
  · exact allB_spec _ _ _ okD_6 h (by omega) (by omega)
  rcases Nat.lt_or_ge h 16384 with q7 | q7
  · exact allB_spec _ _ _ okD_7 h (by omega) (by omega)
  rcases Nat.lt_or_ge h 18432 with q8 | q8
  · exact allB_spec _ _ _ okD_8 h (by omega) (by omega)
  rcases Nat.lt_or_ge h 20480 with q9 | q9
  · exact allB_spec _ _ _ okD_9 h (by omega) (by omega)
  rcases Nat.lt_or_ge h 22528 with q10 | q10
  · exact allB_spec _ _ _ okD_10 h (by omega) (by omega)
  rcases Nat.lt_or_ge h 24576 with q11 | q11
  · exact allB_spec _ _ _ okD_11 h (by omega) (by omega)
  rcases Nat.lt_or_ge h 26624 with q12 | q12
  · exact allB_spec _ _ _ okD_12 h (by omega) (by omega)
  rcases Nat.lt_or_ge h 28672 with q13 | q13
  · exact allB_spec _ _ _ okD_13 h (by omega) (by omega)
  rcases Nat.lt_or_ge h 30720 with q14 | q14
  · exact allB_spec _ _ _ okD_14 h (by omega) (by omega)
  rcases Nat.lt_or_ge h 32768 with q15 | q15
  · exact allB_spec _ _ _ okD_15 h (by omega) (by omega)
  rcases Nat.lt_or_ge h 34816 with q16 | q16
  · exact allB_spec _ _ _ okD_16 h (by omega) (by omega)
  rcases Nat.lt_or_ge h 36864 with q17 | q17
  · exact allB_spec _ _ _ okD_17 h (by omega) (by omega)
  rcases Nat.lt_or_ge h 38912 with q18 | q18
  · exact allB_spec _ _ _ okD_18 h (by omega) (by omega)
  rcases Nat.lt_or_ge h 40960 with q19 | q19
  · exact allB_spec _ _ _ okD_19 h (by omega) (by omega)
  rcases Nat.lt_or_ge h 43008 with q20 | q20
  · exact allB_spec _ _ _ okD_20 h (by omega) (by omega)
  rcases Nat.lt_or_ge h 45056 with q21 | q21
  · exact allB_spec _ _ _ okD_21 h (by omega) (by omega)
  rcases Nat.lt_or_ge h 47104 with q22 | q22
  · exact allB_spec _ _ _ okD_22 h (by omega) (by omega)
  rcases Nat.lt_or_ge h 49152 with q23 | q23
  · exact allB_spec _ _ _ okD_23 h (by omega) (by omega)
  rcases Nat.lt_or_ge h 51200 with q24 | q24
  · exact allB_spec _ _ _ okD_24 h (by omega) (by omega)
  rcases Nat.lt_or_ge h 53248 with q25 | q25
  · exact allB_spec _ _ _ okD_25 h (by omega) (by omega)
  rcases Nat.lt_or_ge h 55296 with q26 | q26
  · exact allB_spec _ _ _ okD_26 h (by omega) (by omega)
  rcases Nat.lt_or_ge h 57344 with q27 | q27
  · exact allB_spec _ _ _ okD_27 h (by omega) (by omega)
  rcases Nat.lt_or_ge h 59392 with q28 | q28
  · exact allB_spec _ _ _ okD_28 h (by omega) (by omega)
  rcases Nat.lt_or_ge h 61440 with q29 | q29
  · exact allB_spec _ _ _ okD_29 h (by omega) (by omega)
  rcases Nat.lt_or_ge h 63488 with q30 | q30
  · exact allB_spec _ _ _ okD_30 h (by omega) (by omega)
  exact allB_spec _ _ _ okD_31 h (by omega) (by omega)
theorem rex_eq (h : Nat) (hh : h < 65536) : rexN h = exN h := by
  have e := both h hh
  unfold okD at e
  rw [Bool.and_eq_true] at e
  exact (Nat.eq_of_beq_eq_true e.1).symm
theorem short_eq (h : Nat) (hh : h < 65536) : (and16 h 3 != 3) = decide (prt h 1 0 < 3) := by
  have e := both h hh
  unfold okD at e
  rw [Bool.and_eq_true] at e
  have e2 := eq_of_beq e.2
  rw [e2]
  cases hb : Nat.blt (prt h 1 0) 3 with
  | true => exact (decide_eq_true (Nat.blt_eq.mp hb)).symm
  | false =>
    refine (decide_eq_false fun hl => ?_).symm
    rw [Nat.blt_eq.mpr hl] at hb
    cases hb
end Go.Proofs.YtblbgalpkodibaaDoor
namespace Go.Proofs.YtblbgalpkodibaaDoor
open Go.RowKit

theorem rexpand_ex {w0 : World} (hT : Tab w0) (h : Nat) (hh : h < 65536) (w : World) (hg : GN w0 w) : Calls Tryd.prog 14 #[.int .u16 h] w fun e w' => e = .returned (.tuple #[.int .u32 (exN h : Nat), .bool (exN h != 0)]) ∧ GN w0 w' := by
  rw [← rex_eq h hh]
  exact rexpand_any hT h hh w hg
end Go.Proofs.YtblbgalpkodibaaDoor
