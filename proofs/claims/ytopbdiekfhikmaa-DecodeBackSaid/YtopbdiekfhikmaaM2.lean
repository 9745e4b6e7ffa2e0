/- Layer 3: shifts, walked. -/
import Derived.Test.YtopbdiekfhikmaaK4
import Derived.Test.YtopbdiekfhikmaaM1
namespace Go.Proofs.Ytopbdiekfhikmaa
open Go.RowKit
theorem nat_and_mid (s n x : Nat) : x &&& ((2 ^ n - 1) <<< s) = (x / 2 ^ s % 2 ^ n) <<< s := by
  apply Nat.eq_of_testBit_eq
  intro i
  rw [Nat.testBit_and, Nat.testBit_shiftLeft, Nat.testBit_shiftLeft, Nat.testBit_two_pow_sub_one, Nat.testBit_mod_two_pow, ← Nat.shiftRight_eq_div_pow, Nat.testBit_shiftRight]
  by_cases h : s ≤ i
  · simp only [ge_iff_le, h, decide_true, Bool.true_and]
    rw [show s + (i - s) = i by omega, Bool.and_comm]
  · simp [h]
theorem and_low7 (b : Nat) : bits .and .u32 (b : Int) 127 = ((b % 128 : Nat) : Int) := by
  have e := and32_cast b 127
  rw [show (127 : Nat) = (2 ^ 7 - 1) % 4294967296 from rfl, and_mask32 _ 7 (by decide)] at e
  exact e.symm
theorem and_mid8 (b : Nat) : bits .and .u32 (b : Int) 1044480 = ((b / 4096 % 256 * 4096 : Nat) : Int) := by
  have e := and32_cast b 1044480
  unfold and32 at e
  rw [show (1044480 : Nat) = (2 ^ 8 - 1) <<< 12 from rfl, nat_and_mid 12 8 b, Nat.shiftLeft_eq, Nat.mod_eq_of_lt (by omega)] at e
  exact e.symm
theorem enc_call {x : Ins} (hw : WFI x) {c : Nat} (h : encN x = (c, true)) (w : World) : Calls Try.prog 12 #[.agg (insA x)] w fun e w' => e = .returned (.tuple #[.int .u32 (c : Int), .bool true]) ∧ GN w w' := by
  have := encode_any x hw w
  rw [h] at this
  exact this
set_option maxRecDepth 100000 in
set_option maxHeartbeats 4000000 in
theorem shifts_n15 (b : Nat) (hb : b < 4294967296) (rd r1 r2 r3 rm c sz i : Int) (us wd : Bool) (hx0 : decN b = ⟨15, rd, r1, r2, r3, rm, c, sz, i, false, us, wd⟩) (w : World) : Calls Try.prog 8 #[.int .u32 b] w fun e w' => e = .returned (.bool true) ∧ GN w w' := by
  go_enter Try.func8, Try.ntmps8
  go_upto_region 4 with (first | (go_at_call 9; refine (awake_any _).mono ?_; rintro _ w9 ⟨rfl, hq9⟩) | (go_at_call 10; refine (dec_call hb hx0 _).mono ?_; rintro _ w10 ⟨rfl, hq10⟩))
  refine cutR (w := w) (g := w10.heap.size) (x := #[.int .i64 15, .int .i64 rd, .int .i64 r1, .int .i64 r2, .int .i64 r3, .int .i64 rm, .int .i64 c, .int .i64 sz, .int .i64 i, .bool false, .bool us, .bool wd]) (GN.alloc (GN.trans hq9 hq10) _) (heap_alloc_last _ _) fun W hgW hx => ?_
  generalize w10.heap.size = g at *
  clear hq9 hq10
  have W1 := lt_of_heap' hx
  obtain ⟨⟨p0, q0⟩, ⟨p1, q1⟩, ⟨p2, q2⟩, ⟨p3, q3⟩, ⟨p4, q4⟩, ⟨p5, q5⟩, ⟨p6, q6⟩, ⟨p7, q7⟩, ⟨p8, q8⟩, ⟨p9, q9⟩, ⟨p10, q10⟩, ⟨p11, q11⟩⟩ := c12 hx
  go_wp2
  go_ret
  exact ⟨rfl, hgW⟩
set_option maxRecDepth 100000 in
set_option maxHeartbeats 4000000 in
theorem shifts_n19 (b : Nat) (hb : b < 4294967296) (rd r1 r2 r3 rm c sz i : Int) (us wd : Bool) (hx0 : decN b = ⟨19, rd, r1, r2, r3, rm, c, sz, i, false, us, wd⟩) (w : World) : Calls Try.prog 8 #[.int .u32 b] w fun e w' => e = .returned (.bool true) ∧ GN w w' := by
  go_enter Try.func8, Try.ntmps8
  go_upto_region 4 with (first | (go_at_call 9; refine (awake_any _).mono ?_; rintro _ w9 ⟨rfl, hq9⟩) | (go_at_call 10; refine (dec_call hb hx0 _).mono ?_; rintro _ w10 ⟨rfl, hq10⟩))
  refine cutR (w := w) (g := w10.heap.size) (x := #[.int .i64 19, .int .i64 rd, .int .i64 r1, .int .i64 r2, .int .i64 r3, .int .i64 rm, .int .i64 c, .int .i64 sz, .int .i64 i, .bool false, .bool us, .bool wd]) (GN.alloc (GN.trans hq9 hq10) _) (heap_alloc_last _ _) fun W hgW hx => ?_
  generalize w10.heap.size = g at *
  clear hq9 hq10
  have W1 := lt_of_heap' hx
  obtain ⟨⟨p0, q0⟩, ⟨p1, q1⟩, ⟨p2, q2⟩, ⟨p3, q3⟩, ⟨p4, q4⟩, ⟨p5, q5⟩, ⟨p6, q6⟩, ⟨p7, q7⟩, ⟨p8, q8⟩, ⟨p9, q9⟩, ⟨p10, q10⟩, ⟨p11, q11⟩⟩ := c12 hx
  go_wp2
  go_ret
  exact ⟨rfl, hgW⟩
set_option maxRecDepth 100000 in
set_option maxHeartbeats 4000000 in
theorem shifts_n20 (b : Nat) (hb : b < 4294967296) (rd r1 r2 r3 rm c sz i : Int) (us wd : Bool) (hx0 : decN b = ⟨20, rd, r1, r2, r3, rm, c, sz, i, false, us, wd⟩) (w : World) : Calls Try.prog 8 #[.int .u32 b] w fun e w' => e = .returned (.bool true) ∧ GN w w' := by
  go_enter Try.func8, Try.ntmps8
  go_upto_region 4 with (first | (go_at_call 9; refine (awake_any _).mono ?_; rintro _ w9 ⟨rfl, hq9⟩) | (go_at_call 10; refine (dec_call hb hx0 _).mono ?_; rintro _ w10 ⟨rfl, hq10⟩))
  refine cutR (w := w) (g := w10.heap.size) (x := #[.int .i64 20, .int .i64 rd, .int .i64 r1, .int .i64 r2, .int .i64 r3, .int .i64 rm, .int .i64 c, .int .i64 sz, .int .i64 i, .bool false, .bool us, .bool wd]) (GN.alloc (GN.trans hq9 hq10) _) (heap_alloc_last _ _) fun W hgW hx => ?_
  generalize w10.heap.size = g at *
  clear hq9 hq10
  have W1 := lt_of_heap' hx
  obtain ⟨⟨p0, q0⟩, ⟨p1, q1⟩, ⟨p2, q2⟩, ⟨p3, q3⟩, ⟨p4, q4⟩, ⟨p5, q5⟩, ⟨p6, q6⟩, ⟨p7, q7⟩, ⟨p8, q8⟩, ⟨p9, q9⟩, ⟨p10, q10⟩, ⟨p11, q11⟩⟩ := c12 hx
  go_wp2
  go_ret
  exact ⟨rfl, hgW⟩
set_option maxRecDepth 100000 in
set_option maxHeartbeats 4000000 in
theorem shifts_nk (b : Nat) (hb : b < 4294967296) (k : Int) (rd r1 r2 r3 rm c sz i : Int) (us wd : Bool) (hk : k ≠ 15 ∧ k ≠ 19 ∧ k ≠ 20) (hx0 : decN b = ⟨k, rd, r1, r2, r3, rm, c, sz, i, false, us, wd⟩) (w : World) : Calls Try.prog 8 #[.int .u32 b] w fun e w' => e = .returned (.bool true) ∧ GN w w' := by
  have k15 := ne_b (show k ≠ 15 by omega)
  have k19 := ne_b (show k ≠ 19 by omega)
  have k20 := ne_b (show k ≠ 20 by omega)
  clear hk
  go_enter Try.func8, Try.ntmps8
  go_upto_region 4 with (first | (go_at_call 9; refine (awake_any _).mono ?_; rintro _ w9 ⟨rfl, hq9⟩) | (go_at_call 10; refine (dec_call hb hx0 _).mono ?_; rintro _ w10 ⟨rfl, hq10⟩))
  refine cutR (w := w) (g := w10.heap.size) (x := #[.int .i64 k, .int .i64 rd, .int .i64 r1, .int .i64 r2, .int .i64 r3, .int .i64 rm, .int .i64 c, .int .i64 sz, .int .i64 i, .bool false, .bool us, .bool wd]) (GN.alloc (GN.trans hq9 hq10) _) (heap_alloc_last _ _) fun W hgW hx => ?_
  generalize w10.heap.size = g at *
  clear hq9 hq10
  have W1 := lt_of_heap' hx
  obtain ⟨⟨p0, q0⟩, ⟨p1, q1⟩, ⟨p2, q2⟩, ⟨p3, q3⟩, ⟨p4, q4⟩, ⟨p5, q5⟩, ⟨p6, q6⟩, ⟨p7, q7⟩, ⟨p8, q8⟩, ⟨p9, q9⟩, ⟨p10, q10⟩, ⟨p11, q11⟩⟩ := c12 hx
  go_wp2
  go_ret
  exact ⟨rfl, hgW⟩
set_option maxRecDepth 100000 in
set_option maxHeartbeats 4000000 in
theorem shifts_sys (b : Nat) (hb : b < 4294967296) (k rd r1 r2 r3 rm c sz i : Int) (us wd : Bool) (hk : 35 ≤ k ∧ k ≤ 37) (hx0 : decN b = ⟨k, rd, r1, r2, r3, rm, c, sz, i, true, us, wd⟩) (w : World) : Calls Try.prog 8 #[.int .u32 b] w fun e w' => e = .returned (.bool true) ∧ GN w w' := by
  have k15 := ne_b (show k ≠ 15 by omega)
  have k19 := ne_b (show k ≠ 19 by omega)
  have k20 := ne_b (show k ≠ 20 by omega)
  have d1 : decide (13 ≤ k) = true := decide_eq_true (by omega)
  have d2 : decide (k ≤ 22) = false := decide_eq_false (by omega)
  have d3 : decide (35 ≤ k) = true := decide_eq_true (by omega)
  have d4 : decide (k ≤ 37) = true := decide_eq_true (by omega)
  clear hk
  go_enter Try.func8, Try.ntmps8
  go_upto_region 4 with (first | (go_at_call 9; refine (awake_any _).mono ?_; rintro _ w9 ⟨rfl, hq9⟩) | (go_at_call 10; refine (dec_call hb hx0 _).mono ?_; rintro _ w10 ⟨rfl, hq10⟩))
  refine cutR (w := w) (g := w10.heap.size) (x := #[.int .i64 k, .int .i64 rd, .int .i64 r1, .int .i64 r2, .int .i64 r3, .int .i64 rm, .int .i64 c, .int .i64 sz, .int .i64 i, .bool true, .bool us, .bool wd]) (GN.alloc (GN.trans hq9 hq10) _) (heap_alloc_last _ _) fun W hgW hx => ?_
  generalize w10.heap.size = g at *
  clear hq9 hq10
  have W1 := lt_of_heap' hx
  obtain ⟨⟨p0, q0⟩, ⟨p1, q1⟩, ⟨p2, q2⟩, ⟨p3, q3⟩, ⟨p4, q4⟩, ⟨p5, q5⟩, ⟨p6, q6⟩, ⟨p7, q7⟩, ⟨p8, q8⟩, ⟨p9, q9⟩, ⟨p10, q10⟩, ⟨p11, q11⟩⟩ := c12 hx
  go_wp2
  go_ret
  exact ⟨rfl, hgW⟩
set_option maxRecDepth 100000 in
set_option maxHeartbeats 4000000 in
theorem shifts_i15t (b : Nat) (hb : b < 4294967296) (rd r1 r2 r3 rm c sz i : Int) (us : Bool) (hi0 : 0 ≤ i) (hi1 : i < 64) (hi2 : i < 32) (cc m op z : Nat) (hC1 : bits .and .u32 (cc : Int) 127 = (m : Int)) (hB1 : bits .and .u32 (b : Int) 127 = (op : Int)) (hO1 : bits .or .u32 (op : Int) 32 = (m : Int)) (hC2 : bits .and .u32 (cc : Int) 1044480 = (z : Int)) (hB2 : bits .and .u32 (b : Int) 1044480 = (z : Int)) (hW : WFI (⟨15, rd, r1, 0, 0, 0, 0, 0, 0, false, false, true⟩ : Ins)) (hE : Hid (encN (⟨15, rd, r1, 0, 0, 0, 0, 0, 0, false, false, true⟩ : Ins) = (cc, true))) (hx0 : decN b = ⟨15, rd, r1, r2, r3, rm, c, sz, i, true, us, true⟩) (w : World) : Calls Try.prog 8 #[.int .u32 b] w fun e w' => e = .returned (.bool true) ∧ GN w w' := by
  have d0 : ¬ i < 0 := by omega
  have d1 : ¬ 63 < i := by omega
  have d2 : ¬ 31 < i := by omega
  go_enter Try.func8, Try.ntmps8
  go_upto_region 4 with (first | (go_at_call 9; refine (awake_any _).mono ?_; rintro _ w9 ⟨rfl, hq9⟩) | (go_at_call 10; refine (dec_call hb hx0 _).mono ?_; rintro _ w10 ⟨rfl, hq10⟩))
  refine cutR (w := w) (g := w10.heap.size) (x := #[.int .i64 15, .int .i64 rd, .int .i64 r1, .int .i64 r2, .int .i64 r3, .int .i64 rm, .int .i64 c, .int .i64 sz, .int .i64 i, .bool true, .bool us, .bool true]) (GN.alloc (GN.trans hq9 hq10) _) (heap_alloc_last _ _) fun W hgW hx => ?_
  generalize w10.heap.size = g at *
  clear hq9 hq10
  have W1 := lt_of_heap' hx
  obtain ⟨⟨p0, q0⟩, ⟨p1, q1⟩, ⟨p2, q2⟩, ⟨p3, q3⟩, ⟨p4, q4⟩, ⟨p5, q5⟩, ⟨p6, q6⟩, ⟨p7, q7⟩, ⟨p8, q8⟩, ⟨p9, q9⟩, ⟨p10, q10⟩, ⟨p11, q11⟩⟩ := c12 hx
  go_wp2_with (go_at_call 12; refine (enc_call hW (unhide hE) _).mono ?_; rintro _ w12 ⟨rfl, hq12⟩)
  go_ret
  exact ⟨rfl, GN.trans hgW hq12⟩
set_option maxRecDepth 100000 in
set_option maxHeartbeats 4000000 in
theorem shifts_i15f (b : Nat) (hb : b < 4294967296) (rd r1 r2 r3 rm c sz i : Int) (us : Bool) (hi0 : 0 ≤ i) (hi1 : i < 64) (cc m op z : Nat) (hC1 : bits .and .u32 (cc : Int) 127 = (m : Int)) (hB1 : bits .and .u32 (b : Int) 127 = (op : Int)) (hO1 : bits .or .u32 (op : Int) 32 = (m : Int)) (hC2 : bits .and .u32 (cc : Int) 1044480 = (z : Int)) (hB2 : bits .and .u32 (b : Int) 1044480 = (z : Int)) (hW : WFI (⟨15, rd, r1, 0, 0, 0, 0, 0, 0, false, false, false⟩ : Ins)) (hE : Hid (encN (⟨15, rd, r1, 0, 0, 0, 0, 0, 0, false, false, false⟩ : Ins) = (cc, true))) (hx0 : decN b = ⟨15, rd, r1, r2, r3, rm, c, sz, i, true, us, false⟩) (w : World) : Calls Try.prog 8 #[.int .u32 b] w fun e w' => e = .returned (.bool true) ∧ GN w w' := by
  have d0 : ¬ i < 0 := by omega
  have d1 : ¬ 63 < i := by omega
  go_enter Try.func8, Try.ntmps8
  go_upto_region 4 with (first | (go_at_call 9; refine (awake_any _).mono ?_; rintro _ w9 ⟨rfl, hq9⟩) | (go_at_call 10; refine (dec_call hb hx0 _).mono ?_; rintro _ w10 ⟨rfl, hq10⟩))
  refine cutR (w := w) (g := w10.heap.size) (x := #[.int .i64 15, .int .i64 rd, .int .i64 r1, .int .i64 r2, .int .i64 r3, .int .i64 rm, .int .i64 c, .int .i64 sz, .int .i64 i, .bool true, .bool us, .bool false]) (GN.alloc (GN.trans hq9 hq10) _) (heap_alloc_last _ _) fun W hgW hx => ?_
  generalize w10.heap.size = g at *
  clear hq9 hq10
  have W1 := lt_of_heap' hx
  obtain ⟨⟨p0, q0⟩, ⟨p1, q1⟩, ⟨p2, q2⟩, ⟨p3, q3⟩, ⟨p4, q4⟩, ⟨p5, q5⟩, ⟨p6, q6⟩, ⟨p7, q7⟩, ⟨p8, q8⟩, ⟨p9, q9⟩, ⟨p10, q10⟩, ⟨p11, q11⟩⟩ := c12 hx
  go_wp2_with (go_at_call 12; refine (enc_call hW (unhide hE) _).mono ?_; rintro _ w12 ⟨rfl, hq12⟩)
  go_ret
  exact ⟨rfl, GN.trans hgW hq12⟩
set_option maxRecDepth 100000 in
set_option maxHeartbeats 4000000 in
theorem shifts_i19t (b : Nat) (hb : b < 4294967296) (rd r1 r2 r3 rm c sz i : Int) (us : Bool) (hi0 : 0 ≤ i) (hi1 : i < 64) (hi2 : i < 32) (cc m op z : Nat) (hC1 : bits .and .u32 (cc : Int) 127 = (m : Int)) (hB1 : bits .and .u32 (b : Int) 127 = (op : Int)) (hO1 : bits .or .u32 (op : Int) 32 = (m : Int)) (hC2 : bits .and .u32 (cc : Int) 1044480 = (z : Int)) (hB2 : bits .and .u32 (b : Int) 1044480 = (z : Int)) (hW : WFI (⟨19, rd, r1, 0, 0, 0, 0, 0, 0, false, false, true⟩ : Ins)) (hE : Hid (encN (⟨19, rd, r1, 0, 0, 0, 0, 0, 0, false, false, true⟩ : Ins) = (cc, true))) (hx0 : decN b = ⟨19, rd, r1, r2, r3, rm, c, sz, i, true, us, true⟩) (w : World) : Calls Try.prog 8 #[.int .u32 b] w fun e w' => e = .returned (.bool true) ∧ GN w w' := by
  have d0 : ¬ i < 0 := by omega
  have d1 : ¬ 63 < i := by omega
  have d2 : ¬ 31 < i := by omega
  go_enter Try.func8, Try.ntmps8
  go_upto_region 4 with (first | (go_at_call 9; refine (awake_any _).mono ?_; rintro _ w9 ⟨rfl, hq9⟩) | (go_at_call 10; refine (dec_call hb hx0 _).mono ?_; rintro _ w10 ⟨rfl, hq10⟩))
  refine cutR (w := w) (g := w10.heap.size) (x := #[.int .i64 19, .int .i64 rd, .int .i64 r1, .int .i64 r2, .int .i64 r3, .int .i64 rm, .int .i64 c, .int .i64 sz, .int .i64 i, .bool true, .bool us, .bool true]) (GN.alloc (GN.trans hq9 hq10) _) (heap_alloc_last _ _) fun W hgW hx => ?_
  generalize w10.heap.size = g at *
  clear hq9 hq10
  have W1 := lt_of_heap' hx
  obtain ⟨⟨p0, q0⟩, ⟨p1, q1⟩, ⟨p2, q2⟩, ⟨p3, q3⟩, ⟨p4, q4⟩, ⟨p5, q5⟩, ⟨p6, q6⟩, ⟨p7, q7⟩, ⟨p8, q8⟩, ⟨p9, q9⟩, ⟨p10, q10⟩, ⟨p11, q11⟩⟩ := c12 hx
  go_wp2_with (go_at_call 12; refine (enc_call hW (unhide hE) _).mono ?_; rintro _ w12 ⟨rfl, hq12⟩)
  go_ret
  exact ⟨rfl, GN.trans hgW hq12⟩
set_option maxRecDepth 100000 in
set_option maxHeartbeats 4000000 in
theorem shifts_i19f (b : Nat) (hb : b < 4294967296) (rd r1 r2 r3 rm c sz i : Int) (us : Bool) (hi0 : 0 ≤ i) (hi1 : i < 64) (cc m op z : Nat) (hC1 : bits .and .u32 (cc : Int) 127 = (m : Int)) (hB1 : bits .and .u32 (b : Int) 127 = (op : Int)) (hO1 : bits .or .u32 (op : Int) 32 = (m : Int)) (hC2 : bits .and .u32 (cc : Int) 1044480 = (z : Int)) (hB2 : bits .and .u32 (b : Int) 1044480 = (z : Int)) (hW : WFI (⟨19, rd, r1, 0, 0, 0, 0, 0, 0, false, false, false⟩ : Ins)) (hE : Hid (encN (⟨19, rd, r1, 0, 0, 0, 0, 0, 0, false, false, false⟩ : Ins) = (cc, true))) (hx0 : decN b = ⟨19, rd, r1, r2, r3, rm, c, sz, i, true, us, false⟩) (w : World) : Calls Try.prog 8 #[.int .u32 b] w fun e w' => e = .returned (.bool true) ∧ GN w w' := by
  have d0 : ¬ i < 0 := by omega
  have d1 : ¬ 63 < i := by omega
  go_enter Try.func8, Try.ntmps8
  go_upto_region 4 with (first | (go_at_call 9; refine (awake_any _).mono ?_; rintro _ w9 ⟨rfl, hq9⟩) | (go_at_call 10; refine (dec_call hb hx0 _).mono ?_; rintro _ w10 ⟨rfl, hq10⟩))
  refine cutR (w := w) (g := w10.heap.size) (x := #[.int .i64 19, .int .i64 rd, .int .i64 r1, .int .i64 r2, .int .i64 r3, .int .i64 rm, .int .i64 c, .int .i64 sz, .int .i64 i, .bool true, .bool us, .bool false]) (GN.alloc (GN.trans hq9 hq10) _) (heap_alloc_last _ _) fun W hgW hx => ?_
  generalize w10.heap.size = g at *
  clear hq9 hq10
  have W1 := lt_of_heap' hx
  obtain ⟨⟨p0, q0⟩, ⟨p1, q1⟩, ⟨p2, q2⟩, ⟨p3, q3⟩, ⟨p4, q4⟩, ⟨p5, q5⟩, ⟨p6, q6⟩, ⟨p7, q7⟩, ⟨p8, q8⟩, ⟨p9, q9⟩, ⟨p10, q10⟩, ⟨p11, q11⟩⟩ := c12 hx
  go_wp2_with (go_at_call 12; refine (enc_call hW (unhide hE) _).mono ?_; rintro _ w12 ⟨rfl, hq12⟩)
  go_ret
  exact ⟨rfl, GN.trans hgW hq12⟩
set_option maxRecDepth 100000 in
set_option maxHeartbeats 4000000 in
theorem shifts_i20t (b : Nat) (hb : b < 4294967296) (rd r1 r2 r3 rm c sz i : Int) (us : Bool) (hi0 : 0 ≤ i) (hi1 : i < 64) (hi2 : i < 32) (cc m op z : Nat) (hC1 : bits .and .u32 (cc : Int) 127 = (m : Int)) (hB1 : bits .and .u32 (b : Int) 127 = (op : Int)) (hO1 : bits .or .u32 (op : Int) 32 = (m : Int)) (hC2 : bits .and .u32 (cc : Int) 1044480 = (z : Int)) (hB2 : bits .and .u32 (b : Int) 1044480 = (z : Int)) (hW : WFI (⟨20, rd, r1, 0, 0, 0, 0, 0, 0, false, false, true⟩ : Ins)) (hE : Hid (encN (⟨20, rd, r1, 0, 0, 0, 0, 0, 0, false, false, true⟩ : Ins) = (cc, true))) (hx0 : decN b = ⟨20, rd, r1, r2, r3, rm, c, sz, i, true, us, true⟩) (w : World) : Calls Try.prog 8 #[.int .u32 b] w fun e w' => e = .returned (.bool true) ∧ GN w w' := by
  have d0 : ¬ i < 0 := by omega
  have d1 : ¬ 63 < i := by omega
  have d2 : ¬ 31 < i := by omega
  go_enter Try.func8, Try.ntmps8
  go_upto_region 4 with (first | (go_at_call 9; refine (awake_any _).mono ?_; rintro _ w9 ⟨rfl, hq9⟩) | (go_at_call 10; refine (dec_call hb hx0 _).mono ?_; rintro _ w10 ⟨rfl, hq10⟩))
  refine cutR (w := w) (g := w10.heap.size) (x := #[.int .i64 20, .int .i64 rd, .int .i64 r1, .int .i64 r2, .int .i64 r3, .int .i64 rm, .int .i64 c, .int .i64 sz, .int .i64 i, .bool true, .bool us, .bool true]) (GN.alloc (GN.trans hq9 hq10) _) (heap_alloc_last _ _) fun W hgW hx => ?_
  generalize w10.heap.size = g at *
  clear hq9 hq10
  have W1 := lt_of_heap' hx
  obtain ⟨⟨p0, q0⟩, ⟨p1, q1⟩, ⟨p2, q2⟩, ⟨p3, q3⟩, ⟨p4, q4⟩, ⟨p5, q5⟩, ⟨p6, q6⟩, ⟨p7, q7⟩, ⟨p8, q8⟩, ⟨p9, q9⟩, ⟨p10, q10⟩, ⟨p11, q11⟩⟩ := c12 hx
  go_wp2_with (go_at_call 12; refine (enc_call hW (unhide hE) _).mono ?_; rintro _ w12 ⟨rfl, hq12⟩)
  go_ret
  exact ⟨rfl, GN.trans hgW hq12⟩
set_option maxRecDepth 100000 in
set_option maxHeartbeats 4000000 in
theorem shifts_i20f (b : Nat) (hb : b < 4294967296) (rd r1 r2 r3 rm c sz i : Int) (us : Bool) (hi0 : 0 ≤ i) (hi1 : i < 64) (cc m op z : Nat) (hC1 : bits .and .u32 (cc : Int) 127 = (m : Int)) (hB1 : bits .and .u32 (b : Int) 127 = (op : Int)) (hO1 : bits .or .u32 (op : Int) 32 = (m : Int)) (hC2 : bits .and .u32 (cc : Int) 1044480 = (z : Int)) (hB2 : bits .and .u32 (b : Int) 1044480 = (z : Int)) (hW : WFI (⟨20, rd, r1, 0, 0, 0, 0, 0, 0, false, false, false⟩ : Ins)) (hE : Hid (encN (⟨20, rd, r1, 0, 0, 0, 0, 0, 0, false, false, false⟩ : Ins) = (cc, true))) (hx0 : decN b = ⟨20, rd, r1, r2, r3, rm, c, sz, i, true, us, false⟩) (w : World) : Calls Try.prog 8 #[.int .u32 b] w fun e w' => e = .returned (.bool true) ∧ GN w w' := by
  have d0 : ¬ i < 0 := by omega
  have d1 : ¬ 63 < i := by omega
  go_enter Try.func8, Try.ntmps8
  go_upto_region 4 with (first | (go_at_call 9; refine (awake_any _).mono ?_; rintro _ w9 ⟨rfl, hq9⟩) | (go_at_call 10; refine (dec_call hb hx0 _).mono ?_; rintro _ w10 ⟨rfl, hq10⟩))
  refine cutR (w := w) (g := w10.heap.size) (x := #[.int .i64 20, .int .i64 rd, .int .i64 r1, .int .i64 r2, .int .i64 r3, .int .i64 rm, .int .i64 c, .int .i64 sz, .int .i64 i, .bool true, .bool us, .bool false]) (GN.alloc (GN.trans hq9 hq10) _) (heap_alloc_last _ _) fun W hgW hx => ?_
  generalize w10.heap.size = g at *
  clear hq9 hq10
  have W1 := lt_of_heap' hx
  obtain ⟨⟨p0, q0⟩, ⟨p1, q1⟩, ⟨p2, q2⟩, ⟨p3, q3⟩, ⟨p4, q4⟩, ⟨p5, q5⟩, ⟨p6, q6⟩, ⟨p7, q7⟩, ⟨p8, q8⟩, ⟨p9, q9⟩, ⟨p10, q10⟩, ⟨p11, q11⟩⟩ := c12 hx
  go_wp2_with (go_at_call 12; refine (enc_call hW (unhide hE) _).mono ?_; rintro _ w12 ⟨rfl, hq12⟩)
  go_ret
  exact ⟨rfl, GN.trans hgW hq12⟩
set_option maxRecDepth 100000 in
set_option maxHeartbeats 4000000 in
theorem shifts_ik (b : Nat) (hb : b < 4294967296) (k : Int) (rd r1 r2 r3 rm c sz i : Int) (us wd : Bool) (hk : 13 ≤ k ∧ k ≤ 22 ∧ k ≠ 15 ∧ k ≠ 19 ∧ k ≠ 20) (cc m op z : Nat) (hC1 : bits .and .u32 (cc : Int) 127 = (m : Int)) (hB1 : bits .and .u32 (b : Int) 127 = (op : Int)) (hO1 : bits .or .u32 (op : Int) 32 = (m : Int)) (hC2 : bits .and .u32 (cc : Int) 1044480 = (z : Int)) (hB2 : bits .and .u32 (b : Int) 1044480 = (z : Int)) (hW : WFI (⟨k, rd, r1, 0, 0, 0, 0, 0, 0, false, false, wd⟩ : Ins)) (hE : Hid (encN (⟨k, rd, r1, 0, 0, 0, 0, 0, 0, false, false, wd⟩ : Ins) = (cc, true))) (hx0 : decN b = ⟨k, rd, r1, r2, r3, rm, c, sz, i, true, us, wd⟩) (w : World) : Calls Try.prog 8 #[.int .u32 b] w fun e w' => e = .returned (.bool true) ∧ GN w w' := by
  have k15 := ne_b (show k ≠ 15 by omega)
  have k19 := ne_b (show k ≠ 19 by omega)
  have k20 := ne_b (show k ≠ 20 by omega)
  have d1 : decide (13 ≤ k) = true := decide_eq_true (by omega)
  have d2 : decide (k ≤ 22) = true := decide_eq_true (by omega)
  clear hk
  go_enter Try.func8, Try.ntmps8
  go_upto_region 4 with (first | (go_at_call 9; refine (awake_any _).mono ?_; rintro _ w9 ⟨rfl, hq9⟩) | (go_at_call 10; refine (dec_call hb hx0 _).mono ?_; rintro _ w10 ⟨rfl, hq10⟩))
  refine cutR (w := w) (g := w10.heap.size) (x := #[.int .i64 k, .int .i64 rd, .int .i64 r1, .int .i64 r2, .int .i64 r3, .int .i64 rm, .int .i64 c, .int .i64 sz, .int .i64 i, .bool true, .bool us, .bool wd]) (GN.alloc (GN.trans hq9 hq10) _) (heap_alloc_last _ _) fun W hgW hx => ?_
  generalize w10.heap.size = g at *
  clear hq9 hq10
  have W1 := lt_of_heap' hx
  obtain ⟨⟨p0, q0⟩, ⟨p1, q1⟩, ⟨p2, q2⟩, ⟨p3, q3⟩, ⟨p4, q4⟩, ⟨p5, q5⟩, ⟨p6, q6⟩, ⟨p7, q7⟩, ⟨p8, q8⟩, ⟨p9, q9⟩, ⟨p10, q10⟩, ⟨p11, q11⟩⟩ := c12 hx
  go_wp2_with (go_at_call 12; refine (enc_call hW (unhide hE) _).mono ?_; rintro _ w12 ⟨rfl, hq12⟩)
  go_ret
  exact ⟨rfl, GN.trans hgW hq12⟩
theorem shifts_walk (b : Nat) (hb : b < 4294967296) (w : World) : Calls Try.prog 8 #[.int .u32 b] w fun e w' => e = .returned (.bool true) ∧ GN w w' := by
  have hs := shi_dec b
  have hwf := dec_wf b
  rcases hx : decN b with ⟨k, rd, r1, r2, r3, rm, c, sz, i, ui, us, wd⟩
  rw [hx] at hs hwf
  cases ui with
  | false =>
    by_cases k15 : k = 15
    · subst k15; exact shifts_n15 b hb rd r1 r2 r3 rm c sz i us wd hx w
    · by_cases k19 : k = 19
      · subst k19; exact shifts_n19 b hb rd r1 r2 r3 rm c sz i us wd hx w
      · by_cases k20 : k = 20
        · subst k20; exact shifts_n20 b hb rd r1 r2 r3 rm c sz i us wd hx w
        · exact shifts_nk b hb k rd r1 r2 r3 rm c sz i us wd ⟨k15, k19, k20⟩ hx w
  | true =>
    obtain ⟨h1, h2, h3⟩ := hs rfl
    dsimp only at h1 h2 h3
    rcases h1 with h1 | h1
    · obtain ⟨op, rdn, f, r1n, g, e0, eop, lf, lrd, lr1, lg, ef, er1, henc⟩ := h3 h1
      have wz : (Lit.int .i64 0).wf = true := by decide
      have hW : WFI (⟨k, rd, r1, 0, 0, 0, 0, 0, 0, false, false, wd⟩ : Ins) := ⟨hwf.kind, hwf.rd, hwf.rs1, wz, wz, wz, wz, wz, wz⟩
      have hc : op + 32 + rdn * 128 + f * 4096 + r1n * 32768 + g * 33554432 < 4294967296 := by omega
      have hC1 := and_low7 (op + 32 + rdn * 128 + f * 4096 + r1n * 32768 + g * 33554432)
      have hB1 := and_low7 b
      have hC2 := and_mid8 (op + 32 + rdn * 128 + f * 4096 + r1n * 32768 + g * 33554432)
      have hB2 := and_mid8 b
      rw [show (op + 32 + rdn * 128 + f * 4096 + r1n * 32768 + g * 33554432) % 128 = op + 32 by omega] at hC1
      have e0' : b % 128 = op := by unfold fd at e0; simpa using e0
      rw [e0'] at hB1
      have hz : (op + 32 + rdn * 128 + f * 4096 + r1n * 32768 + g * 33554432) / 4096 % 256 = b / 4096 % 256 := by
        unfold fd at ef er1
        simp only [Nat.reducePow] at ef er1
        omega
      rw [hz] at hC2
      have hO1 : bits .or .u32 (op : Int) 32 = ((op + 32 : Nat) : Int) := by
        have e := or32_cast op 32
        rw [show or32 op 32 = op + 32 from by rcases eop with rfl | rfl <;> decide] at e
        exact e.symm
      by_cases k15 : k = 15
      · subst k15
        obtain ⟨i0, i1, i2⟩ := h2 (.inl rfl)
        cases wd
        · exact shifts_i15f b hb rd r1 r2 r3 rm c sz i us i0 i1 _ _ _ _ hC1 hB1 hO1 hC2 hB2 hW henc hx w
        · exact shifts_i15t b hb rd r1 r2 r3 rm c sz i us i0 i1 (i2 rfl) _ _ _ _ hC1 hB1 hO1 hC2 hB2 hW henc hx w
      · by_cases k19 : k = 19
        · subst k19
          obtain ⟨i0, i1, i2⟩ := h2 (.inr (.inl rfl))
          cases wd
          · exact shifts_i19f b hb rd r1 r2 r3 rm c sz i us i0 i1 _ _ _ _ hC1 hB1 hO1 hC2 hB2 hW henc hx w
          · exact shifts_i19t b hb rd r1 r2 r3 rm c sz i us i0 i1 (i2 rfl) _ _ _ _ hC1 hB1 hO1 hC2 hB2 hW henc hx w
        · by_cases k20 : k = 20
          · subst k20
            obtain ⟨i0, i1, i2⟩ := h2 (.inr (.inr rfl))
            cases wd
            · exact shifts_i20f b hb rd r1 r2 r3 rm c sz i us i0 i1 _ _ _ _ hC1 hB1 hO1 hC2 hB2 hW henc hx w
            · exact shifts_i20t b hb rd r1 r2 r3 rm c sz i us i0 i1 (i2 rfl) _ _ _ _ hC1 hB1 hO1 hC2 hB2 hW henc hx w
          · exact shifts_ik b hb k rd r1 r2 r3 rm c sz i us wd ⟨h1.1, h1.2, k15, k19, k20⟩ _ _ _ _ hC1 hB1 hO1 hC2 hB2 hW henc hx w
    · exact shifts_sys b hb k rd r1 r2 r3 rm c sz i us wd h1 hx w
end Go.Proofs.Ytopbdiekfhikmaa
