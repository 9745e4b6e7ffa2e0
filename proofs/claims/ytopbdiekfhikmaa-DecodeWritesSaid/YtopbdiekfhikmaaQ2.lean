/- Layer 3, the document's side: the bits of a row: the walk. / Layer 3, the document's side: Encode. -/
import Derived.Test.YtopbdiekfhikmaaQ1
import Derived.Test.YtopbdiekfhikmaaJ1
namespace Go.Proofs.Ytopbdiekfhikmaa
open Go.RowKit
def opw (q : Bool) (a v : Nat) : Nat := if q then or32 a v else a
def preN (F : ByteArray) (bt : Nat) (X : Ins) : Nat := opw (hasF F 122) (opw (hasF F 104) (opw (hasF F 99) (opw (hasF F 114) (opw (hasF F 51) (opw (hasF F 50) (opw (hasF F 49) (opw (hasF F 100) (bt) (pt X.rd 5 * 2 ^ 7)) (pt X.rs1 5 * 2 ^ 15)) (pt X.rs2 5 * 2 ^ 20)) (pt X.rs3 5 * 2 ^ 27)) (pt X.rm 3 * 2 ^ 12)) (pt X.csr 12 * 2 ^ 20)) (pt X.imm 6 * 2 ^ 20)) (pt X.imm 5 * 2 ^ 15)
def writeN (F : ByteArray) (bt : Nat) (X : Ins) : Nat := pcW X.imm (preN F bt X) (pcN (letF F))
set_option maxRecDepth 1000000 in
set_option maxHeartbeats 8000000 in
theorem write_w (mk : Int) (bt : Nat) (kd sz : Int) (F : ByteArray) (wd us : Bool) (hF : F.size ≤ 1000) (X : Ins) (w : World) : Calls Try.prog 34 #[.agg #[.int .u32 mk, .int .u32 (bt : Int), .int .i64 kd, .string F, .int .i64 sz, .bool wd, .bool us], .agg #[.int .i64 X.kind, .int .i64 X.rd, .int .i64 X.rs1, .int .i64 X.rs2, .int .i64 X.rs3, .int .i64 X.rm, .int .i64 X.csr, .int .i64 X.size, .int .i64 X.imm, .bool X.ui, .bool X.us, .bool X.wd]] w fun r w' => r = .returned (.int .u32 ((writeN F bt X : Nat) : Int)) ∧ GN w w' := by
  obtain ⟨q1, hq1⟩ : ∃ q, hasF F 100 = q := ⟨_, rfl⟩
  have HQ1 := hide hq1
  clear hq1
  obtain ⟨q2, hq2⟩ : ∃ q, hasF F 49 = q := ⟨_, rfl⟩
  have HQ2 := hide hq2
  clear hq2
  obtain ⟨q3, hq3⟩ : ∃ q, hasF F 50 = q := ⟨_, rfl⟩
  have HQ3 := hide hq3
  clear hq3
  obtain ⟨q4, hq4⟩ : ∃ q, hasF F 51 = q := ⟨_, rfl⟩
  have HQ4 := hide hq4
  clear hq4
  obtain ⟨q5, hq5⟩ : ∃ q, hasF F 114 = q := ⟨_, rfl⟩
  have HQ5 := hide hq5
  clear hq5
  obtain ⟨q6, hq6⟩ : ∃ q, hasF F 99 = q := ⟨_, rfl⟩
  have HQ6 := hide hq6
  clear hq6
  obtain ⟨q7, hq7⟩ : ∃ q, hasF F 104 = q := ⟨_, rfl⟩
  have HQ7 := hide hq7
  clear hq7
  obtain ⟨q8, hq8⟩ : ∃ q, hasF F 122 = q := ⟨_, rfl⟩
  have HQ8 := hide hq8
  clear hq8
  obtain ⟨v0, hv0⟩ : ∃ z, bt = z := ⟨_, rfl⟩
  have HV0 := hide hv0
  have HX := hide (((Heap.nil w).new #[.int .u32 mk, .int .u32 (v0 : Int), .int .i64 kd, .string F, .int .i64 sz, .bool wd, .bool us] 49).new (insA X) 25)
  rw [hv0]
  clear hv0
  go_enter Try.func34, Try.ntmps34
  have h8 := unhide HX
  have e : ∀ (W : World) (X : Obj), (W.alloc X).heap.size = W.heap.size + 1 := fun W X => by simp
  rw [e] at h8
  replace HX := hide h8
  have c1 := (c7 (Heap.heap h8.f2)).2.1
  obtain ⟨c1, f1⟩ := c1
  clear h8 e
  go_upto_region 2 with fail
  clear c1 f1
  have c3 := (c7 (Heap.heap (unhide HX).f2)).2.2.2.1
  obtain ⟨c3, f3⟩ := c3
  go_wp2_with fail
  refine (has_q F hF 100 q1 (unhide HQ1) _).mono ?_
  rintro r w5 ⟨rfl, rfl⟩
  clear c3 f3
  go_upto_if 12 with fail
  go_cut [5] from 13 to 19 (fun s5 wx => s5 = .int .u32 ((opw q1 v0 (pt X.rd 5 * 2 ^ 7) : Nat) : Int) ∧ Heap w wx [HP.blk (w.heap.size + 1) (insA X) 25, HP.blk w.heap.size #[.int .u32 mk, .int .u32 (v0 : Int), .int .i64 kd, .string F, .int .i64 sz, .bool wd, .bool us] 49])
  case first =>
    cases q1 with
    | true =>
    have e7 : bits .and .i64 X.rd 31 = ((pt X.rd 5 : Nat) : Int) := by rw [show (31 : Int) = 2 ^ 5 - 1 by decide, and64 _ 5 (by decide), pt_cast]
    have l7 : pt X.rd 5 < 32 := pt_lt _ 5
    obtain ⟨⟨p0, r0⟩, ⟨p1, r1⟩, ⟨p2, r2⟩, ⟨p3, r3⟩, ⟨p4, r4⟩, ⟨p5, r5⟩, ⟨p6, r6⟩, ⟨p7, r7⟩, ⟨p8, r8⟩, ⟨p9, r9⟩, ⟨p10, r10⟩, ⟨p11, r11⟩⟩ := c12 (Heap.heap (unhide HX))
    go_wp2
    go_meet
    exact ⟨by show _ = Value.int .u32 ((or32 v0 (pt X.rd 5 * 2 ^ 7) : Nat) : Int); rw [or32_cast, Int.natCast_mul]; rfl, unhide HX⟩
    | false =>
    go_wp2
    go_meet
    exact ⟨rfl, unhide HX⟩
  case rest =>
  obtain ⟨rfl, hwc⟩ := hcut
  clear HX
  have HX := hide hwc
  clear hwc
  obtain ⟨v1, hv1⟩ : ∃ z, opw q1 v0 (pt X.rd 5 * 2 ^ 7) = z := ⟨_, rfl⟩
  rw [hv1]
  have HV1 := hide hv1
  clear hv1
  have c3 := (c7 (Heap.heap (unhide HX).f2)).2.2.2.1
  obtain ⟨c3, f3⟩ := c3
  go_wp2_with fail
  refine (has_q F hF 49 q2 (unhide HQ2) _).mono ?_
  rintro r w5 ⟨rfl, rfl⟩
  clear c3 f3
  go_upto_if 22 with fail
  go_cut [5] from 23 to 29 (fun s5 wx => s5 = .int .u32 ((opw q2 v1 (pt X.rs1 5 * 2 ^ 15) : Nat) : Int) ∧ Heap w wx [HP.blk (w.heap.size + 1) (insA X) 25, HP.blk w.heap.size #[.int .u32 mk, .int .u32 (v0 : Int), .int .i64 kd, .string F, .int .i64 sz, .bool wd, .bool us] 49])
  case first =>
    cases q2 with
    | true =>
    have e7 : bits .and .i64 X.rs1 31 = ((pt X.rs1 5 : Nat) : Int) := by rw [show (31 : Int) = 2 ^ 5 - 1 by decide, and64 _ 5 (by decide), pt_cast]
    have l7 : pt X.rs1 5 < 32 := pt_lt _ 5
    obtain ⟨⟨p0, r0⟩, ⟨p1, r1⟩, ⟨p2, r2⟩, ⟨p3, r3⟩, ⟨p4, r4⟩, ⟨p5, r5⟩, ⟨p6, r6⟩, ⟨p7, r7⟩, ⟨p8, r8⟩, ⟨p9, r9⟩, ⟨p10, r10⟩, ⟨p11, r11⟩⟩ := c12 (Heap.heap (unhide HX))
    go_wp2
    go_meet
    exact ⟨by show _ = Value.int .u32 ((or32 v1 (pt X.rs1 5 * 2 ^ 15) : Nat) : Int); rw [or32_cast, Int.natCast_mul]; rfl, unhide HX⟩
    | false =>
    go_wp2
    go_meet
    exact ⟨rfl, unhide HX⟩
  case rest =>
  obtain ⟨rfl, hwc⟩ := hcut
  clear HX
  have HX := hide hwc
  clear hwc
  obtain ⟨v2, hv2⟩ : ∃ z, opw q2 v1 (pt X.rs1 5 * 2 ^ 15) = z := ⟨_, rfl⟩
  rw [hv2]
  have HV2 := hide hv2
  clear hv2
  have c3 := (c7 (Heap.heap (unhide HX).f2)).2.2.2.1
  obtain ⟨c3, f3⟩ := c3
  go_wp2_with fail
  refine (has_q F hF 50 q3 (unhide HQ3) _).mono ?_
  rintro r w5 ⟨rfl, rfl⟩
  clear c3 f3
  go_upto_if 32 with fail
  go_cut [5] from 33 to 39 (fun s5 wx => s5 = .int .u32 ((opw q3 v2 (pt X.rs2 5 * 2 ^ 20) : Nat) : Int) ∧ Heap w wx [HP.blk (w.heap.size + 1) (insA X) 25, HP.blk w.heap.size #[.int .u32 mk, .int .u32 (v0 : Int), .int .i64 kd, .string F, .int .i64 sz, .bool wd, .bool us] 49])
  case first =>
    cases q3 with
    | true =>
    have e7 : bits .and .i64 X.rs2 31 = ((pt X.rs2 5 : Nat) : Int) := by rw [show (31 : Int) = 2 ^ 5 - 1 by decide, and64 _ 5 (by decide), pt_cast]
    have l7 : pt X.rs2 5 < 32 := pt_lt _ 5
    obtain ⟨⟨p0, r0⟩, ⟨p1, r1⟩, ⟨p2, r2⟩, ⟨p3, r3⟩, ⟨p4, r4⟩, ⟨p5, r5⟩, ⟨p6, r6⟩, ⟨p7, r7⟩, ⟨p8, r8⟩, ⟨p9, r9⟩, ⟨p10, r10⟩, ⟨p11, r11⟩⟩ := c12 (Heap.heap (unhide HX))
    go_wp2
    go_meet
    exact ⟨by show _ = Value.int .u32 ((or32 v2 (pt X.rs2 5 * 2 ^ 20) : Nat) : Int); rw [or32_cast, Int.natCast_mul]; rfl, unhide HX⟩
    | false =>
    go_wp2
    go_meet
    exact ⟨rfl, unhide HX⟩
  case rest =>
  obtain ⟨rfl, hwc⟩ := hcut
  clear HX
  have HX := hide hwc
  clear hwc
  obtain ⟨v3, hv3⟩ : ∃ z, opw q3 v2 (pt X.rs2 5 * 2 ^ 20) = z := ⟨_, rfl⟩
  rw [hv3]
  have HV3 := hide hv3
  clear hv3
  have c3 := (c7 (Heap.heap (unhide HX).f2)).2.2.2.1
  obtain ⟨c3, f3⟩ := c3
  go_wp2_with fail
  refine (has_q F hF 51 q4 (unhide HQ4) _).mono ?_
  rintro r w5 ⟨rfl, rfl⟩
  clear c3 f3
  go_upto_if 42 with fail
  go_cut [5] from 43 to 49 (fun s5 wx => s5 = .int .u32 ((opw q4 v3 (pt X.rs3 5 * 2 ^ 27) : Nat) : Int) ∧ Heap w wx [HP.blk (w.heap.size + 1) (insA X) 25, HP.blk w.heap.size #[.int .u32 mk, .int .u32 (v0 : Int), .int .i64 kd, .string F, .int .i64 sz, .bool wd, .bool us] 49])
  case first =>
    cases q4 with
    | true =>
    have e7 : bits .and .i64 X.rs3 31 = ((pt X.rs3 5 : Nat) : Int) := by rw [show (31 : Int) = 2 ^ 5 - 1 by decide, and64 _ 5 (by decide), pt_cast]
    have l7 : pt X.rs3 5 < 32 := pt_lt _ 5
    obtain ⟨⟨p0, r0⟩, ⟨p1, r1⟩, ⟨p2, r2⟩, ⟨p3, r3⟩, ⟨p4, r4⟩, ⟨p5, r5⟩, ⟨p6, r6⟩, ⟨p7, r7⟩, ⟨p8, r8⟩, ⟨p9, r9⟩, ⟨p10, r10⟩, ⟨p11, r11⟩⟩ := c12 (Heap.heap (unhide HX))
    go_wp2
    go_meet
    exact ⟨by show _ = Value.int .u32 ((or32 v3 (pt X.rs3 5 * 2 ^ 27) : Nat) : Int); rw [or32_cast, Int.natCast_mul]; rfl, unhide HX⟩
    | false =>
    go_wp2
    go_meet
    exact ⟨rfl, unhide HX⟩
  case rest =>
  obtain ⟨rfl, hwc⟩ := hcut
  clear HX
  have HX := hide hwc
  clear hwc
  obtain ⟨v4, hv4⟩ : ∃ z, opw q4 v3 (pt X.rs3 5 * 2 ^ 27) = z := ⟨_, rfl⟩
  rw [hv4]
  have HV4 := hide hv4
  clear hv4
  have c3 := (c7 (Heap.heap (unhide HX).f2)).2.2.2.1
  obtain ⟨c3, f3⟩ := c3
  go_wp2_with fail
  refine (has_q F hF 114 q5 (unhide HQ5) _).mono ?_
  rintro r w5 ⟨rfl, rfl⟩
  clear c3 f3
  go_upto_if 52 with fail
  go_cut [5] from 53 to 59 (fun s5 wx => s5 = .int .u32 ((opw q5 v4 (pt X.rm 3 * 2 ^ 12) : Nat) : Int) ∧ Heap w wx [HP.blk (w.heap.size + 1) (insA X) 25, HP.blk w.heap.size #[.int .u32 mk, .int .u32 (v0 : Int), .int .i64 kd, .string F, .int .i64 sz, .bool wd, .bool us] 49])
  case first =>
    cases q5 with
    | true =>
    have e7 : bits .and .i64 X.rm 7 = ((pt X.rm 3 : Nat) : Int) := by rw [show (7 : Int) = 2 ^ 3 - 1 by decide, and64 _ 3 (by decide), pt_cast]
    have l7 : pt X.rm 3 < 8 := pt_lt _ 3
    obtain ⟨⟨p0, r0⟩, ⟨p1, r1⟩, ⟨p2, r2⟩, ⟨p3, r3⟩, ⟨p4, r4⟩, ⟨p5, r5⟩, ⟨p6, r6⟩, ⟨p7, r7⟩, ⟨p8, r8⟩, ⟨p9, r9⟩, ⟨p10, r10⟩, ⟨p11, r11⟩⟩ := c12 (Heap.heap (unhide HX))
    go_wp2
    go_meet
    exact ⟨by show _ = Value.int .u32 ((or32 v4 (pt X.rm 3 * 2 ^ 12) : Nat) : Int); rw [or32_cast, Int.natCast_mul]; rfl, unhide HX⟩
    | false =>
    go_wp2
    go_meet
    exact ⟨rfl, unhide HX⟩
  case rest =>
  obtain ⟨rfl, hwc⟩ := hcut
  clear HX
  have HX := hide hwc
  clear hwc
  obtain ⟨v5, hv5⟩ : ∃ z, opw q5 v4 (pt X.rm 3 * 2 ^ 12) = z := ⟨_, rfl⟩
  rw [hv5]
  have HV5 := hide hv5
  clear hv5
  have c3 := (c7 (Heap.heap (unhide HX).f2)).2.2.2.1
  obtain ⟨c3, f3⟩ := c3
  go_wp2_with fail
  refine (has_q F hF 99 q6 (unhide HQ6) _).mono ?_
  rintro r w5 ⟨rfl, rfl⟩
  clear c3 f3
  go_upto_if 62 with fail
  go_cut [5] from 63 to 69 (fun s5 wx => s5 = .int .u32 ((opw q6 v5 (pt X.csr 12 * 2 ^ 20) : Nat) : Int) ∧ Heap w wx [HP.blk (w.heap.size + 1) (insA X) 25, HP.blk w.heap.size #[.int .u32 mk, .int .u32 (v0 : Int), .int .i64 kd, .string F, .int .i64 sz, .bool wd, .bool us] 49])
  case first =>
    cases q6 with
    | true =>
    have e7 : bits .and .i64 X.csr 4095 = ((pt X.csr 12 : Nat) : Int) := by rw [show (4095 : Int) = 2 ^ 12 - 1 by decide, and64 _ 12 (by decide), pt_cast]
    have l7 : pt X.csr 12 < 4096 := pt_lt _ 12
    obtain ⟨⟨p0, r0⟩, ⟨p1, r1⟩, ⟨p2, r2⟩, ⟨p3, r3⟩, ⟨p4, r4⟩, ⟨p5, r5⟩, ⟨p6, r6⟩, ⟨p7, r7⟩, ⟨p8, r8⟩, ⟨p9, r9⟩, ⟨p10, r10⟩, ⟨p11, r11⟩⟩ := c12 (Heap.heap (unhide HX))
    go_wp2
    go_meet
    exact ⟨by show _ = Value.int .u32 ((or32 v5 (pt X.csr 12 * 2 ^ 20) : Nat) : Int); rw [or32_cast, Int.natCast_mul]; rfl, unhide HX⟩
    | false =>
    go_wp2
    go_meet
    exact ⟨rfl, unhide HX⟩
  case rest =>
  obtain ⟨rfl, hwc⟩ := hcut
  clear HX
  have HX := hide hwc
  clear hwc
  obtain ⟨v6, hv6⟩ : ∃ z, opw q6 v5 (pt X.csr 12 * 2 ^ 20) = z := ⟨_, rfl⟩
  rw [hv6]
  have HV6 := hide hv6
  clear hv6
  have c3 := (c7 (Heap.heap (unhide HX).f2)).2.2.2.1
  obtain ⟨c3, f3⟩ := c3
  go_wp2_with fail
  refine (has_q F hF 104 q7 (unhide HQ7) _).mono ?_
  rintro r w5 ⟨rfl, rfl⟩
  clear c3 f3
  go_upto_if 72 with fail
  go_cut [5] from 73 to 79 (fun s5 wx => s5 = .int .u32 ((opw q7 v6 (pt X.imm 6 * 2 ^ 20) : Nat) : Int) ∧ Heap w wx [HP.blk (w.heap.size + 1) (insA X) 25, HP.blk w.heap.size #[.int .u32 mk, .int .u32 (v0 : Int), .int .i64 kd, .string F, .int .i64 sz, .bool wd, .bool us] 49])
  case first =>
    cases q7 with
    | true =>
    have e7 : bits .and .i64 X.imm 63 = ((pt X.imm 6 : Nat) : Int) := by rw [show (63 : Int) = 2 ^ 6 - 1 by decide, and64 _ 6 (by decide), pt_cast]
    have l7 : pt X.imm 6 < 64 := pt_lt _ 6
    obtain ⟨⟨p0, r0⟩, ⟨p1, r1⟩, ⟨p2, r2⟩, ⟨p3, r3⟩, ⟨p4, r4⟩, ⟨p5, r5⟩, ⟨p6, r6⟩, ⟨p7, r7⟩, ⟨p8, r8⟩, ⟨p9, r9⟩, ⟨p10, r10⟩, ⟨p11, r11⟩⟩ := c12 (Heap.heap (unhide HX))
    go_wp2
    go_meet
    exact ⟨by show _ = Value.int .u32 ((or32 v6 (pt X.imm 6 * 2 ^ 20) : Nat) : Int); rw [or32_cast, Int.natCast_mul]; rfl, unhide HX⟩
    | false =>
    go_wp2
    go_meet
    exact ⟨rfl, unhide HX⟩
  case rest =>
  obtain ⟨rfl, hwc⟩ := hcut
  clear HX
  have HX := hide hwc
  clear hwc
  obtain ⟨v7, hv7⟩ : ∃ z, opw q7 v6 (pt X.imm 6 * 2 ^ 20) = z := ⟨_, rfl⟩
  rw [hv7]
  have HV7 := hide hv7
  clear hv7
  have c3 := (c7 (Heap.heap (unhide HX).f2)).2.2.2.1
  obtain ⟨c3, f3⟩ := c3
  go_wp2_with fail
  refine (has_q F hF 122 q8 (unhide HQ8) _).mono ?_
  rintro r w5 ⟨rfl, rfl⟩
  clear c3 f3
  go_upto_if 82 with fail
  go_cut [5] from 83 to 89 (fun s5 wx => s5 = .int .u32 ((opw q8 v7 (pt X.imm 5 * 2 ^ 15) : Nat) : Int) ∧ Heap w wx [HP.blk (w.heap.size + 1) (insA X) 25, HP.blk w.heap.size #[.int .u32 mk, .int .u32 (v0 : Int), .int .i64 kd, .string F, .int .i64 sz, .bool wd, .bool us] 49])
  case first =>
    cases q8 with
    | true =>
    have e7 : bits .and .i64 X.imm 31 = ((pt X.imm 5 : Nat) : Int) := by rw [show (31 : Int) = 2 ^ 5 - 1 by decide, and64 _ 5 (by decide), pt_cast]
    have l7 : pt X.imm 5 < 32 := pt_lt _ 5
    obtain ⟨⟨p0, r0⟩, ⟨p1, r1⟩, ⟨p2, r2⟩, ⟨p3, r3⟩, ⟨p4, r4⟩, ⟨p5, r5⟩, ⟨p6, r6⟩, ⟨p7, r7⟩, ⟨p8, r8⟩, ⟨p9, r9⟩, ⟨p10, r10⟩, ⟨p11, r11⟩⟩ := c12 (Heap.heap (unhide HX))
    go_wp2
    go_meet
    exact ⟨by show _ = Value.int .u32 ((or32 v7 (pt X.imm 5 * 2 ^ 15) : Nat) : Int); rw [or32_cast, Int.natCast_mul]; rfl, unhide HX⟩
    | false =>
    go_wp2
    go_meet
    exact ⟨rfl, unhide HX⟩
  case rest =>
  obtain ⟨rfl, hwc⟩ := hcut
  clear HX
  have HX := hide hwc
  clear hwc
  obtain ⟨v8, hv8⟩ : ∃ z, opw q8 v7 (pt X.imm 5 * 2 ^ 15) = z := ⟨_, rfl⟩
  rw [hv8]
  have HV8 := hide hv8
  clear hv8

  obtain ⟨c3, f3⟩ := (c7 (Heap.heap (unhide HX).f2)).2.2.2.1
  go_wp2_with fail
  refine (letter_any F hF _).mono ?_
  rintro r w6 ⟨rfl, rfl⟩
  clear c3 f3
  go_wp2_with fail
  obtain ⟨c, hc⟩ : ∃ c, letF F = c := ⟨_, rfl⟩
  rw [hc]
  have HC := hide hc
  clear hc
  refine (pieces_w (unhide HX) c).mono ?_
  rintro r w7 ⟨A, rfl, hA, h2⟩
  rw [pcs_len] at h2 hA ⊢
  have HA := hide hA
  have H2 := hide h2
  clear hA h2
  go_wp2
  refine loopQ1 (c := c) (X := X) (unhide HA) rfl _ _ _ _ _ _ _ _ _ _ _ _ _ _ _ _ _ _ _ _ _ _ _ _ _ _ _ _ _ _ _ _ _ _ _ _ _ _ _ _ _ _ _ _ _ _ _ _ _ _ _ _ _ _ _ _ _ _ _ _ _ _ _ _ _ _ _ _ _ _ _ _ _ _ _ _ _ _ _ _ _ _ _ _ _ _ _ _ _ _ _ _ (unhide H2) _ _ _ _ _ _ _ _ _ _ _ _ _ _ _ _ _ _ _ _ _ _ _ _ _ _ _ _ _ _ _ ?_
  clear H2 HA
  intro a' w8 hX
  obtain ⟨v, ⟨hv, hJ⟩, hF⟩ := hX
  unfold FRQ1 at hF
  obtain ⟨u94, hF⟩ := hF
  obtain ⟨u95, hF⟩ := hF
  obtain ⟨u96, hF⟩ := hF
  obtain ⟨u97, hF⟩ := hF
  obtain ⟨u98, hF⟩ := hF
  obtain ⟨u99, hF⟩ := hF
  obtain ⟨u100, hF⟩ := hF
  obtain ⟨u101, hF⟩ := hF
  obtain ⟨u102, hF⟩ := hF
  obtain ⟨u103, hF⟩ := hF
  obtain ⟨u104, hF⟩ := hF
  obtain ⟨u105, hF⟩ := hF
  obtain ⟨u106, hF⟩ := hF
  obtain ⟨u107, hF⟩ := hF
  obtain ⟨u108, hF⟩ := hF
  obtain ⟨u109, hF⟩ := hF
  obtain ⟨u110, hF⟩ := hF
  obtain ⟨u111, hF⟩ := hF
  obtain ⟨u112, hF⟩ := hF
  obtain ⟨u113, hF⟩ := hF
  obtain ⟨u114, hF⟩ := hF
  obtain ⟨u115, hF⟩ := hF
  obtain ⟨u116, hF⟩ := hF
  obtain ⟨u117, hF⟩ := hF
  obtain ⟨u118, hF⟩ := hF
  obtain ⟨u119, hF⟩ := hF
  obtain ⟨u120, hF⟩ := hF
  obtain ⟨u121, hF⟩ := hF
  obtain ⟨u122, hF⟩ := hF
  obtain ⟨u123, hF⟩ := hF
  obtain ⟨u124, hF⟩ := hF
  subst hF
  have HG := hide (show GN w w8 from ⟨hJ.below.os, hJ.below.tape, hJ.below.output, hJ.below.size, fun k hk _ => hJ.below.block k hk⟩)
  have HV := hide hv
  clear hv hJ
  go_wp2
  go_ret
  refine ⟨?_, unhide HG⟩
  have e : v = writeN F bt X := by
    unfold writeN preN
    rw [unhide HC, unhide HQ1, unhide HQ2, unhide HQ3, unhide HQ4, unhide HQ5, unhide HQ6, unhide HQ7, unhide HQ8, unhide HV0, unhide HV1, unhide HV2, unhide HV3, unhide HV4, unhide HV5, unhide HV6, unhide HV7, unhide HV8]
    exact unhide HV
  show Ending.returned (.int .u32 (v : Int)) = _
  rw [e, unhide HV0]
end Go.Proofs.Ytopbdiekfhikmaa
namespace Go.Proofs.Ytopbdiekfhikmaa
open Go.RowKit
theorem rows_in2 : rowsL.all (fun r => decide (0 ≤ r.kind) && decide (r.kind < 100) && decide (0 ≤ r.size) && decide (r.size < 100)) = true := by decide +kernel
theorem wf_small {n : Int} (h1 : -9223372036854775808 ≤ n) (h2 : n < 9223372036854775808) : (Lit.int .i64 n).wf = true := by
  simp [Lit.wf, IntKind.min, IntKind.max, IntKind.signed, IntKind.bits]; omega
theorem immF_bd (F : ByteArray) (b : Nat) : -9223372036854775808 ≤ immF F b ∧ immF F b < 9223372036854775808 := by
  rw [immF_of]
  unfold immP immI immS immB immU immJ fd
  repeat' split
  all_goals omega
theorem if_bd (q : Bool) (n : Nat) (h : n < 4294967296) : (Lit.int .i64 (if q then (n : Int) else 0)).wf = true := by
  cases q <;> exact wf_small (by simp <;> omega) (by simp <;> omega)
theorem ref_wf (b : Nat) : WFI (refN b) := by
  have hz : WFI zero := ⟨by decide, by decide, by decide, by decide, by decide, by decide, by decide, by decide, by decide⟩
  unfold refN
  split
  · exact hz
  · rename_i r hr
    have hin := List.all_eq_true.1 rows_in2 r (List.mem_of_find?_eq_some hr)
    simp only [Bool.and_eq_true, decide_eq_true_eq] at hin
    obtain ⟨⟨⟨k0, k1⟩, s0⟩, s1⟩ := hin
    unfold takeN
    split
    · exact hz
    · have f1 := fd_lt b 7 5
      have f2 := fd_lt b 15 5
      have f3 := fd_lt b 20 5
      have f4 := fd_lt b 27 5
      have f5 := fd_lt b 12 3
      have f6 := fd_lt b 20 12
      have hi := immF_bd r.form b
      unfold readN
      exact ⟨wf_small (by show _ ≤ r.kind; omega) (by show r.kind < _; omega), if_bd _ _ (by omega), if_bd _ _ (by omega), if_bd _ _ (by omega), if_bd _ _ (by omega), if_bd _ _ (by omega), if_bd _ _ (by omega), wf_small (by show _ ≤ r.size; omega) (by show r.size < _; omega), wf_small hi.1 hi.2⟩
def tryR (X : Ins) (r : RowS) : Bool := decide (r.kind = X.kind) && decide (refN (writeN r.form r.bits.toNat X) = X)
def docN (X : Ins) : Nat × Bool := if X.kind = 0 then (0, false) else match rowsL.find? (tryR X) with
  | some r => (writeN r.form r.bits.toNat X, true)
  | none => (0, false)
theorem pcW_lt (n : Int) : ∀ (l : List (Nat × Nat × Nat)) (v : Nat), v < 4294967296 → pcW n v l < 4294967296 := by
  intro l
  induction l with
  | nil => intro v h; exact h
  | cons p l ih => intro v h; exact ih _ (or32_lt _ _)
theorem opw_lt {q : Bool} {a v : Nat} (h : a < 4294967296) : opw q a v < 4294967296 := by
  cases q
  · exact h
  · exact or32_lt _ _
theorem writeN_lt (F : ByteArray) {bt : Nat} (h : bt < 4294967296) (X : Ins) : writeN F bt X < 4294967296 :=
  pcW_lt _ _ _ (opw_lt (opw_lt (opw_lt (opw_lt (opw_lt (opw_lt (opw_lt (opw_lt h))))))))
theorem rows_in3 : rowsL.all (fun r => decide (0 ≤ r.bits) && decide (r.bits < 4294967296) && decide (r.form.size ≤ 1000)) = true := by decide +kernel
set_option maxRecDepth 1000000 in
set_option maxHeartbeats 8000000 in
theorem rencode_any (X : Ins) (hx : WFI X) (w : World) : Calls Try.prog 13 #[.agg #[.int .i64 X.kind, .int .i64 X.rd, .int .i64 X.rs1, .int .i64 X.rs2, .int .i64 X.rs3, .int .i64 X.rm, .int .i64 X.csr, .int .i64 X.size, .int .i64 X.imm, .bool X.ui, .bool X.us, .bool X.wd]] w fun r w' => r = .returned (.tuple #[.int .u32 ((docN X).1 : Nat), .bool (docN X).2]) ∧ GN w w' := by
  have H := hide ((Heap.nil w).new (insA X) 25)
  have HWX := hide hx
  clear hx
  go_enter Try.func13, Try.ntmps13
  go_wp2_with fail
  obtain ⟨gx, hgx⟩ : ∃ z, w.heap.size = z := ⟨_, rfl⟩
  rw [hgx] at H ⊢
  clear hgx
  refine (rows_any (unhide H)).mono ?_
  rintro r w1 ⟨A, cap, rfl, h1⟩
  obtain ⟨g, o, cap', e, _⟩ := h1.slw.cell (j := 0) (by decide)
  injection e with e1 e2 e3
  subst e1 e3
  have H1 := hide h1
  clear h1 H e2
  go_wp2
  go_loopw [5] (fun i wr => ∃ k : Nat, i = .int .i64 k ∧ k ≤ 160 ∧ (∀ j x, j < k → rowsL[j]? = some x → tryR X x = false) ∧ Heap w wr [HP.slw (.slice (some ⟨g, o, none⟩) 160 cap) 7 160 (rowsC rowsL), HP.blk gx (insA X) 25]) (fun i _ => 160 - (intOf i).toNat)
  case atStart => exact ⟨0, rfl, by omega, fun j x h => by omega, unhide H1⟩
  case round =>
    clear H1
    obtain ⟨k, rfl, hk, hno, hJ⟩ := hrel
    have HN := hide hno
    have HJ := hide hJ
    have HG := hide (show GN w wr from ⟨hJ.below.os, hJ.below.tape, hJ.below.output, hJ.below.size, fun k hk _ => hJ.below.block k hk⟩)
    clear hno hJ
    obtain ⟨⟨p0, r0⟩, ⟨p1, r1⟩, ⟨p2, r2⟩, ⟨p3, r3⟩, ⟨p4, r4⟩, ⟨p5, r5⟩, ⟨p6, r6⟩, ⟨p7, r7⟩, ⟨p8, r8⟩, ⟨p9, r9⟩, ⟨p10, r10⟩, ⟨p11, r11⟩⟩ := c12 (Heap.heap (unhide HJ).f2)
    by_cases hlt : k < 160
    · by_cases h0 : X.kind = 0
      · have z0 : (X.kind != 0) = false := by rw [h0]; rfl
        have HD := hide (show docN X = (0, false) by unfold docN; rw [if_pos h0])
        clear h0
        go_wp2
        go_ret2
        exact ⟨by rw [unhide HD]; rfl, unhide HG⟩
      · have z0 : (X.kind != 0) = true := bne_iff_ne.2 h0
        have H0 := hide h0
        clear h0
        obtain ⟨r, hr⟩ : ∃ r, rowsL[k]? = some r := ⟨_, List.getElem?_eq_getElem (by rw [show rowsL.length = 160 from rfl]; exact hlt)⟩
        have hin := List.all_eq_true.1 rows_in3 r (List.mem_of_getElem? hr)
        obtain ⟨q, hq⟩ : ∃ q, decide (r.kind = X.kind) = q := ⟨_, rfl⟩
        have HR := hide (show tryR X r = (decide (r.kind = X.kind) && decide (refN (writeN r.form r.bits.toNat X) = X)) from rfl)
        obtain ⟨mk, bt0, kd, F, sz, wd, us⟩ := r
        simp only [Bool.and_eq_true, decide_eq_true_eq] at hin
        obtain ⟨⟨m0, m1⟩, hF⟩ := hin
        obtain ⟨bt, rfl⟩ : ∃ n : Nat, bt0 = (n : Int) := ⟨bt0.toNat, by omega⟩
        obtain ⟨B, hB⟩ : ∃ B, writeN F bt X = B := ⟨_, rfl⟩
        have HBL := hide (show B < 4294967296 by rw [← hB]; exact writeN_lt F (by omega) X)
        have HBV := hide hB
        have F2 := hide (show ∀ w, (binOp .neq 3 (.int .i64 kd) (.int .i64 X.kind)).run Try.prog w = .ok (.bool (!q)) w by
          intro w
          rw [← hq]
          exact (rfl : _ = Result.ok (Value.bool (kd != X.kind)) w))
        have FA := hide (fun w => ixo_at (P := Try.prog) 46 49 7 Try.underlying46 (by kernel_rfl) g o 160 cap k hlt w)
        have HK := hide hr
        have HQ := hide hq
        have HF := hide hF
        clear hr hq hF m0 m1 hB
        go_wp2_with fail
        refine wp_region_F (fun w_ => Heap w w_ [HP.slw (.slice (some ⟨g, o, none⟩) 160 cap) 7 160 (rowsC rowsL), HP.blk gx (insA X) 25]) (fun _ _ => True) (fun k_ v_ w_ => match k_ with
            | 0 => v_ = .slice (some ⟨g, o, none⟩) 160 cap
            | 1 => v_ = .int .i64 (k : Int)
            | 2 => v_ = .pointer (some ⟨g, o + k * 7, none⟩)
            | 3 => v_ = .pointer (some ⟨g, o + k * 7 + 2, none⟩)
            | 4 => v_ = .int .i64 kd
            | 5 => v_ = .pointer (some ⟨gx, 0, none⟩)
            | 6 => v_ = .int .i64 X.kind
            | _ => v_ = .bool (!q)) fol (by kernel_rfl) ?_ ?_ ?_ ?_
        · exact (unhide HJ).drew
        · intro k_ v_ w_ w2_ h1 hg
          split at h1 <;> exact h1
        · intro vals
          show wpG _ _ _ _ _ _ 0 (_ :: _) _
          refine wpG_cons (gval (.slice (some ⟨g, o, none⟩) 160 cap) (fun _ => trivial) fun w_ hJ hd => ?_) ?_
          · exact ⟨by kernel_rfl, by kernel_rfl, rfl⟩
          refine wpG_cons (gval (.int .i64 (k : Int)) (fun _ => trivial) fun w_ hJ hd => ?_) ?_
          · exact ⟨by kernel_rfl, by kernel_rfl, rfl⟩
          refine wpG_cons (gop (Instr.indexAt 46 (.slice (some ⟨g, o, none⟩) 160 cap) (.int .i64 (k : Int))) (.pointer (some ⟨g, o + k * 7, none⟩)) (fun _ => trivial) fun w_ hJ hd => ?_) ?_
          · have e0 : vals 0 = _ := hd 0 (by decide) (by kernel_rfl)
            have e1 : vals 1 = _ := hd 1 (by decide) (by kernel_rfl)
            rw [e0, e1]
            exact ⟨by kernel_rfl, by kernel_rfl, unhide FA w_, rfl⟩
          refine wpG_cons (gval (.pointer (some ⟨g, o + k * 7 + 2, none⟩)) (fun _ => trivial) fun w_ hJ hd => ?_) ?_
          · have e2 : vals 2 = _ := hd 2 (by decide) (by kernel_rfl)
            rw [e2]
            exact ⟨by kernel_rfl, by kernel_rfl, rfl⟩
          refine wpG_cons (gop (Instr.loadAt 3 (.pointer (some ⟨g, o + k * 7 + 2, none⟩))) (.int .i64 kd) (fun _ => trivial) fun w_ hJ hd => ?_) ?_
          · have e3 : vals 3 = _ := hd 3 (by decide) (by kernel_rfl)
            rw [e3]
            exact ⟨by kernel_rfl, by kernel_rfl, run_load1 (by kernel_rfl) (row_at hJ (unhide HK) 2 _ rfl), rfl⟩
          refine wpG_cons (gval (.pointer (some ⟨gx, 0, none⟩)) (fun _ => trivial) fun w_ hJ hd => ?_) ?_
          · exact ⟨by kernel_rfl, by kernel_rfl, rfl⟩
          refine wpG_cons (gop (Instr.loadAt 3 (.pointer (some ⟨gx, 0, none⟩))) (.int .i64 X.kind) (fun _ => trivial) fun w_ hJ hd => ?_) ?_
          · have e5 : vals 5 = _ := hd 5 (by decide) (by kernel_rfl)
            rw [e5]
            exact ⟨by kernel_rfl, by kernel_rfl, run_load1 (by kernel_rfl) (c12 (Heap.heap hJ.f2)).1.1, rfl⟩
          refine wpG_cons (gop (binOp .neq 3 (.int .i64 kd) (.int .i64 X.kind)) (.bool (!q)) (fun _ => trivial) fun w_ hJ hd => ?_) wpG_nil
          · have e4 : vals 4 = _ := hd 4 (by decide) (by kernel_rfl)
            have e6 : vals 6 = _ := hd 6 (by decide) (by kernel_rfl)
            rw [e4, e6]
            exact ⟨by kernel_rfl, by kernel_rfl, unhide F2 w_, rfl⟩
        · intro vals w_ hJ hf
          have e0 : vals 0 = _ := hf 0 (by decide)
          have e1 : vals 1 = _ := hf 1 (by decide)
          have e2 : vals 2 = _ := hf 2 (by decide)
          have e3 : vals 3 = _ := hf 3 (by decide)
          have e4 : vals 4 = _ := hf 4 (by decide)
          have e5 : vals 5 = _ := hf 5 (by decide)
          have e6 : vals 6 = _ := hf 6 (by decide)
          have e7 : vals 7 = _ := hf 7 (by decide)
          simp only [fillG, Nat.zero_add, Nat.reduceAdd, e0, e1, e2, e3, e4, e5, e6, e7, Act.put, List.setIfInBounds_toArray, List.set_cons_succ, List.set_cons_zero]
          clear e0 e1 e2 e3 e4 e5 e6 e7 hf
          clear HJ HG
          have HJ := hide hJ
          clear hJ
          cases q with
          | false =>
            go_wp2
            refine ⟨⟨k + 1, by go_num, by omega, fun j x hj hx => ?_, unhide HJ⟩, by simp [intOf]; omega⟩
            by_cases hjk : j = k
            · subst hjk
              rw [unhide HK] at hx
              injection hx with hx
              rw [← hx, unhide HR, unhide HQ]
              rfl
            · exact unhide HN j x (by omega) hx
          | true =>
          go_wp2_with fail
          refine wp_region_F (fun w_ => Heap w w_ [HP.slw (.slice (some ⟨g, o, none⟩) 160 cap) 7 160 (rowsC rowsL), HP.blk gx (insA X) 25]) (fun _ _ => True) (fun k_ v_ w_ => match k_ with
              | 0 => v_ = .slice (some ⟨g, o, none⟩) 160 cap
              | 1 => v_ = .int .i64 (k : Int)
              | 2 => v_ = .pointer (some ⟨g, o + k * 7, none⟩)
              | 3 => v_ = .agg #[.int .u32 mk, .int .u32 (bt : Int), .int .i64 kd, .string F, .int .i64 sz, .bool wd, .bool us]
              | 4 => v_ = .agg (insA X)
              | 5 => v_ = .int .u32 (B : Int)
              | _ => v_ = .int .u32 (B : Int)) fol (by kernel_rfl) ?_ ?_ ?_ ?_
          · exact (unhide HJ).drew
          · intro k_ v_ w_ w2_ h1 hg
            split at h1 <;> exact h1
          · intro vals
            show wpG _ _ _ _ _ _ 0 (_ :: _) _
            refine wpG_cons (gval (.slice (some ⟨g, o, none⟩) 160 cap) (fun _ => trivial) fun w_ hJ hd => ?_) ?_
            · exact ⟨by kernel_rfl, by kernel_rfl, rfl⟩
            refine wpG_cons (gval (.int .i64 (k : Int)) (fun _ => trivial) fun w_ hJ hd => ?_) ?_
            · exact ⟨by kernel_rfl, by kernel_rfl, rfl⟩
            refine wpG_cons (gop (Instr.indexAt 46 (.slice (some ⟨g, o, none⟩) 160 cap) (.int .i64 (k : Int))) (.pointer (some ⟨g, o + k * 7, none⟩)) (fun _ => trivial) fun w_ hJ hd => ?_) ?_
            · have e0 : vals 0 = _ := hd 0 (by decide) (by kernel_rfl)
              have e1 : vals 1 = _ := hd 1 (by decide) (by kernel_rfl)
              rw [e0, e1]
              exact ⟨by kernel_rfl, by kernel_rfl, unhide FA w_, rfl⟩
            refine wpG_cons (gop (Instr.loadAt 49 (.pointer (some ⟨g, o + k * 7, none⟩))) (.agg #[.int .u32 mk, .int .u32 (bt : Int), .int .i64 kd, .string F, .int .i64 sz, .bool wd, .bool us]) (fun _ => trivial) fun w_ hJ hd => ?_) ?_
            · have e2 : vals 2 = _ := hd 2 (by decide) (by kernel_rfl)
              rw [e2]
              exact ⟨by kernel_rfl, by kernel_rfl, run_loadAt_mid w_ g (o + k * 7) 49 [.int .u32 mk, .int .u32 (bt : Int), .int .i64 kd, .string F, .int .i64 sz, .bool wd, .bool us] _ (fun j v hv => row_at hJ (unhide HK) j v hv) Try.underlying49 rfl (by kernel_rfl), rfl⟩
            refine wpG_cons (gop (Instr.loadAt 25 (.pointer (some ⟨gx, 0, none⟩))) (.agg (insA X)) (fun _ => trivial) fun w_ hJ hd => ?_) ?_
            · exact ⟨by kernel_rfl, by kernel_rfl, run_loadRow (Heap.heap hJ.f2), rfl⟩
            refine wpG_cons (gcall 34 #[.agg #[.int .u32 mk, .int .u32 (bt : Int), .int .i64 kd, .string F, .int .i64 sz, .bool wd, .bool us], .agg (insA X)] fun w_ hJ hd => ?_) ?_
            · have e3 : vals 3 = _ := hd 3 (by decide) (by kernel_rfl)
              have e4 : vals 4 = _ := hd 4 (by decide) (by kernel_rfl)
              rw [e3, e4]
              exact ⟨by kernel_rfl, by kernel_rfl, (write_w mk bt kd sz F wd us (unhide HF) X w_).mono fun e w2 ⟨he, hg⟩ => ⟨_, he, hJ.grown hg, trivial, by rw [unhide HBV]; rfl⟩⟩
            refine wpG_cons (gval (.int .u32 (B : Int)) (fun _ => trivial) fun w_ hJ hd => ?_) wpG_nil
            · have e5 : vals 5 = _ := hd 5 (by decide) (by kernel_rfl)
              rw [e5]
              exact ⟨by kernel_rfl, by kernel_rfl, rfl⟩
          · intro vals w_ hJ hf
            have e0 : vals 0 = _ := hf 0 (by decide)
            have e1 : vals 1 = _ := hf 1 (by decide)
            have e2 : vals 2 = _ := hf 2 (by decide)
            have e3 : vals 3 = _ := hf 3 (by decide)
            have e4 : vals 4 = _ := hf 4 (by decide)
            have e5 : vals 5 = _ := hf 5 (by decide)
            have e6 : vals 6 = _ := hf 6 (by decide)
            simp only [fillG, Nat.zero_add, Nat.reduceAdd, e0, e1, e2, e3, e4, e5, e6, Act.put, List.setIfInBounds_toArray, List.set_cons_succ, List.set_cons_zero]
            clear e0 e1 e2 e3 e4 e5 e6 hf
            clear HJ
            have HJ := hide hJ
            clear hJ
            obtain ⟨Y, hY⟩ : ∃ Y, refN B = Y := ⟨_, rfl⟩
            have HYW := hide (show WFI Y by rw [← hY]; exact ref_wf B)
            obtain ⟨q2, hq2⟩ : ∃ q, decide (Y = X) = q := ⟨_, rfl⟩
            have F3 := hide (show ∀ w, (do eqGuard .eql 25 (.tmp 34) (.tmp 35) (.agg (insA Y)) (.agg (insA X)); binOp .eql 25 (.agg (insA Y)) (.agg (insA X)) : Sem Value).run Try.prog w = .ok (.bool q2) w by
              intro w
              rw [← hq2]
              exact eqg25 (eql25 (unhide HYW) (unhide HWX) w))
            have HT := hide (show tryR X ⟨mk, bt, kd, F, sz, wd, us⟩ = q2 by rw [unhide HR, unhide HQ, Bool.true_and, ← hq2, ← hY, ← unhide HBV]; rfl)
            have HY := hide hY
            clear hY hq2
            go_wp2_with fail
            refine wp_region_F (fun w_ => Heap w w_ [HP.slw (.slice (some ⟨g, o, none⟩) 160 cap) 7 160 (rowsC rowsL), HP.blk gx (insA X) 25]) (fun _ _ => True) (fun k_ v_ w_ => match k_ with
                | 0 => v_ = .int .u32 (B : Int)
                | 1 => v_ = .agg (insA Y)
                | 2 => v_ = .agg (insA X)
                | _ => v_ = .bool q2) fol (by kernel_rfl) ?_ ?_ ?_ ?_
            · exact (unhide HJ).drew
            · intro k_ v_ w_ w2_ h1 hg
              split at h1 <;> exact h1
            · intro vals
              show wpG _ _ _ _ _ _ 0 (_ :: _) _
              refine wpG_cons (gval (.int .u32 (B : Int)) (fun _ => trivial) fun w_ hJ hd => ?_) ?_
              · exact ⟨by kernel_rfl, by kernel_rfl, rfl⟩
              refine wpG_cons (gcall 11 #[.int .u32 (B : Int)] fun w_ hJ hd => ?_) ?_
              · have e0 : vals 0 = _ := hd 0 (by decide) (by kernel_rfl)
                rw [e0]
                exact ⟨by kernel_rfl, by kernel_rfl, (rdecode_any B (unhide HBL) w_).mono fun e w2 ⟨he, hg⟩ => ⟨_, he, hJ.grown hg, trivial, by rw [unhide HY]; rfl⟩⟩
              refine wpG_cons (gop (Instr.loadAt 25 (.pointer (some ⟨gx, 0, none⟩))) (.agg (insA X)) (fun _ => trivial) fun w_ hJ hd => ?_) ?_
              · exact ⟨by kernel_rfl, by kernel_rfl, run_loadRow (Heap.heap hJ.f2), rfl⟩
              refine wpG_cons (gop ((do eqGuard .eql 25 (.tmp 34) (.tmp 35) (.agg (insA Y)) (.agg (insA X)); binOp .eql 25 (.agg (insA Y)) (.agg (insA X)) : Sem Value)) (.bool q2) (fun _ => trivial) fun w_ hJ hd => ?_) wpG_nil
              · have e1 : vals 1 = _ := hd 1 (by decide) (by kernel_rfl)
                have e2 : vals 2 = _ := hd 2 (by decide) (by kernel_rfl)
                rw [e1, e2]
                exact ⟨by kernel_rfl, by kernel_rfl, unhide F3 w_, rfl⟩
            · intro vals w_ hJ hf
              have e0 : vals 0 = _ := hf 0 (by decide)
              have e1 : vals 1 = _ := hf 1 (by decide)
              have e2 : vals 2 = _ := hf 2 (by decide)
              have e3 : vals 3 = _ := hf 3 (by decide)
              simp only [fillG, Nat.zero_add, Nat.reduceAdd, e0, e1, e2, e3, Act.put, List.setIfInBounds_toArray, List.set_cons_succ, List.set_cons_zero]
              clear e0 e1 e2 e3 hf
              have HG := hide (show GN w w_ from ⟨hJ.below.os, hJ.below.tape, hJ.below.output, hJ.below.size, fun k hk _ => hJ.below.block k hk⟩)
              clear HJ
              have HJ := hide hJ
              clear hJ
              cases q2 with
              | false =>
                go_wp2
                refine ⟨⟨k + 1, by go_num, by omega, fun j x hj hx => ?_, unhide HJ⟩, by simp [intOf]; omega⟩
                by_cases hjk : j = k
                · subst hjk
                  rw [unhide HK] at hx
                  injection hx with hx
                  rw [← hx]
                  exact unhide HT
                · exact unhide HN j x (by omega) hx
              | true =>
                have HD := hide (show docN X = (B, true) by
                  unfold docN
                  rw [if_neg (unhide H0), find_at (unhide HK) (unhide HT) (unhide HN), ← unhide HBV]
                  rfl)
                go_wp2
                go_ret2
                exact ⟨by rw [unhide HD]; rfl, unhide HG⟩
    · obtain rfl : k = 160 := by omega
      have HD := hide (show docN X = (0, false) by
        unfold docN
        split
        · rfl
        · have : rowsL.find? (tryR X) = none := List.find?_eq_none.2 fun x hx => by
            obtain ⟨j, hj⟩ := List.getElem?_of_mem hx
            have hjl := (List.getElem?_eq_some_iff.1 hj).1
            rw [show rowsL.length = 160 from rfl] at hjl
            rw [unhide HN j x hjl hj]
            exact Bool.false_ne_true
          rw [this])
      go_wp2
      go_ret2
      exact ⟨by rw [unhide HD]; rfl, unhide HG⟩
end Go.Proofs.Ytopbdiekfhikmaa
