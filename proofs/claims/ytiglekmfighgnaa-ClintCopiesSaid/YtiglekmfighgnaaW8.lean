/- What is fixed. -/
import Derived.Test.YtiglekmfighgnaaW7
namespace Go.Proofs.Ytiglekmfighgnaa
open Go.RowKit

theorem gt {w w1 w2 : World} {B : Nat} {row : Option Nat} (h : Below B w w1) (g : w1.grownBy w2 row) (hB : B ≤ w1.heap.size) (hr : ∀ k, row = some k → B ≤ k) : Below B w w2 := h.grown g hB hr

theorem below_drewN {B : Nat} {a w : World} (h : Below B a w) (n : Nat) : Below B a (w.drewN n) := ⟨h.os, h.tape, h.output, h.size, h.block⟩
theorem fixed_any (w : World) : Calls Try.prog 8 #[] w fun e w' => e = .returned (.bool true) ∧ Below w.heap.size w w' := by
  have r1 := read_any 16384 8 0 0 18446744073709551615
  rw [show readC 16384 8 0 0 18446744073709551615 = (18446744073709551615, true) from by decide] at r1
  have R1 := hide r1
  clear r1
  go_enter Try.func8, Try.ntmps8
  go_wp2_with fail
  refine (new_any _).mono ?_
  rintro e w1 ⟨rfl, h1, g1, z1⟩
  have b1 : Below w.heap.size w w1 := (Below.refl _ _).grown g1 (Nat.le_refl _) (by simp)
  generalize hb : w.heap.size = b at *
  have HB := hide hb
  clear hb
  have H1 := hide h1
  clear h1
  go_wp2_with fail
  refine (unhide R1 b w1 (unhide H1) (by omega) (by omega) (by omega) (by omega) (by omega) (by omega)).mono ?_
  rintro e w2 ⟨rfl, g2⟩
  have H2 := hide (grown_heap (unhide H1) g2)
  have b2 : Below b w w2 := b1.grown g2 (by omega) (by simp)
  go_wp2_with fail
  refine (write_any 0 4 7 0 0 18446744073709551615 b w2 (unhide H2) (by omega) (by omega) (by omega) (by omega) (by omega) (by omega) (by omega) (by omega)).mono ?_
  rintro e w3 ⟨rfl, h3, g3⟩
  have H3 := hide (show w3.heap[b]? = some (CL 1 0 18446744073709551615) from h3)
  clear h3
  have s3 : b < w3.heap.size := lt_of_heap (unhide H3)
  have b3 : Below b w w3 := b2.grown g3 (by have := lt_of_heap (unhide H2); omega) (by simp)
  go_wp2_with fail
  refine (write_any 16384 8 2 1 0 18446744073709551615 b w3 (unhide H3) (by omega) (by omega) (by omega) (by omega) (by omega) (by omega) (by omega) (by omega)).mono ?_
  rintro e w4 ⟨rfl, h4, g4⟩
  have H4 := hide (show w4.heap[b]? = some (CL 1 0 2) from h4)
  clear h4
  have s4 : b < w4.heap.size := lt_of_heap (unhide H4)
  have b4 : Below b w w4 := b3.grown g4 (by omega) (by simp)
  go_wp2_with fail
  refine (show Calls Try.prog 19 _ w4 (fun e w' => e = .returned (.int .u64 8) ∧ ∃ n, w' = w4.drewN n) from pend_any b 1 0 2 w4 (unhide H4) (by omega)).mono ?_
  rintro e w5 ⟨rfl, n5, rfl⟩
  go_wp2_with fail
  refine (tick_any b 1 0 2 _ (show (w4.drewN n5).heap[b]? = _ from unhide H4)).mono ?_
  rintro e w6 ⟨rfl, h6, g6⟩
  have H6 := hide (show w6.heap[b]? = some (CL 1 1 2) from h6)
  clear h6
  have s6 : b < w6.heap.size := lt_of_heap (unhide H6)
  have b6 : Below b w w6 := (below_drewN b4 n5).grown g6 (by simpa using Nat.le_of_lt s4) (by simp)
  go_wp2_with fail
  refine (tick_any b 1 1 2 _ (unhide H6)).mono ?_
  rintro e w7 ⟨rfl, h7, g7⟩
  have H7 := hide (show w7.heap[b]? = some (CL 1 2 2) from h7)
  clear h7
  have s7 : b < w7.heap.size := lt_of_heap (unhide H7)
  have b7 : Below b w w7 := b6.grown g7 (by omega) (by simp)
  go_wp2_with fail
  refine (copy_any b 1 2 2 _ (unhide H7)).mono ?_
  rintro e w8 ⟨rfl, h8, g8, z8⟩
  have H8 := hide h8
  clear h8
  have H8' := hide (grown_heap (unhide H7) g8)
  have b8 : Below b w w8 := b7.grown g8 (by omega) (by simp)
  go_wp2_with fail
  refine (show Calls Try.prog 19 _ w8 (fun e w' => e = .returned (.int .u64 136) ∧ ∃ n, w' = w8.drewN n) from pend_any b 1 2 2 w8 (unhide H8') (by omega)).mono ?_
  rintro e w9 ⟨rfl, n9, rfl⟩
  go_wp2_with fail
  refine (time_any b 1 2 2 _ (show (w8.drewN n9).heap[b]? = _ from unhide H8')).mono ?_
  rintro e w10 ⟨rfl, rfl⟩
  go_wp2_with fail
  refine (time_any w7.heap.size 1 2 2 _ (show (w8.drewN n9).heap[w7.heap.size]? = _ from unhide H8)).mono ?_
  rintro e w11 ⟨rfl, rfl⟩
  go_wp2_with fail
  go_ret
  refine ⟨rfl, ?_⟩
  rw [unhide HB]
  exact below_drewN b8 n9
end Go.Proofs.Ytiglekmfighgnaa
