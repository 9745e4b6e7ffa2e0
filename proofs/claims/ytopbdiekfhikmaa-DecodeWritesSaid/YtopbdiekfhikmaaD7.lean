/- Layer 3: operations of floats (what they are). / Layer 3: operations of floats (leaves). / Layer 3: operations of floats (leaves). / Layer 3: operations of floats (leaves). / Layer 3: operations of floats (leaves). / Layer 3: operations of floats (leaves). / Layer 3: operations of floats (all). -/
import Derived.Test.YtopbdiekfhikmaaD6
namespace Go.Proofs.Ytopbdiekfhikmaa
open Go.RowKit
theorem cutx {w W0 : World} {c : Code} {Q : Exit → Act → World → Prop} {a : Act} {z x : Array Value} (hg : GN w W0) (hx : W0.heap[w.heap.size]? = some (.cells x 25 (0, 0))) (hz : W0.heap[w.heap.size + 1]? = some (.cells z 25 (0, 0)))
    (k : ∀ W, GN w W → W.heap[w.heap.size]? = some (.cells x 25 (0, 0)) → W.heap[w.heap.size + 1]? = some (.cells z 25 (0, 0)) → Code.wp Try.prog c Q a W) : Code.wp Try.prog c Q a W0 := k W0 hg hx hz
def opX (k rd r1 r2 : Nat) (sz : Int) (us wd : Bool) : Ins := ⟨k, rd, r1, r2, 0, 0, 0, sz, 0, false, us, wd⟩
def operK (f h s rd r1 r2 : Nat) (sz : Int) : Ins :=
  if h < 4 then roundN f (opX (55 + h) rd r1 r2 sz false false)
  else if h = 4 then (if 3 ≤ f then zero else opX (64 + f) rd r1 r2 sz false false)
  else if h = 5 then (if 2 ≤ f then zero else opX (67 + f) rd r1 r2 sz false false)
  else if h = 20 then (if 2 < f then zero else opX (71 - f) rd r1 r2 sz false false)
  else if h = 11 ∧ s = 0 then roundN f (opX 59 rd r1 0 sz false false)
  else if h = 8 ∧ (sz = 4 ∧ s = 1 ∨ sz = 8 ∧ s = 0) then roundN f (opX 75 rd r1 0 sz false false)
  else if h = 24 ∧ s < 4 then roundN f (opX 73 rd r1 0 sz (s % 2 == 1) (decide (s < 2)))
  else if h = 26 ∧ s < 4 then roundN f (opX 74 rd r1 0 sz (s % 2 == 1) (decide (s < 2)))
  else if h = 28 ∧ s = 0 ∧ f = 0 then opX 76 rd r1 0 sz false false
  else if h = 28 ∧ s = 0 ∧ f = 1 then opX 72 rd r1 0 sz false false
  else if h = 30 ∧ s = 0 ∧ f = 0 then opX 77 rd r1 0 sz false false
  else zero
end Go.Proofs.Ytopbdiekfhikmaa
namespace Go.Proofs.Ytopbdiekfhikmaa
open Go.RowKit
set_option maxRecDepth 100000 in
set_option maxHeartbeats 4000000 in
theorem oper_0 (b : Nat) (hb : b < 4294967296) (h s f : Nat) (sz : Int) (hf : fd b 12 3 = f) (hh : fd b 27 5 = h) (hs : fd b 20 5 = s) (h4 : h < 4) (rd r1 r2 : Nat) (w : World) : Calls Try.prog 40 #[.int .u32 b, .agg #[.int .i64 0, .int .i64 rd, .int .i64 r1, .int .i64 r2, .int .i64 0, .int .i64 0, .int .i64 0, .int .i64 sz, .int .i64 0, .bool false, .bool false, .bool false]] w fun r w' => r = .returned (insV (operK f h s rd r1 r2 sz)) ∧ GN w w' := by
  have hf8 : f < 8 := hf ▸ fd_lt b 12 3
  have hf' := hide hf
  have z4 : (h : Int) < 4 := by omega
  have hl := hide (show operK f h s rd r1 r2 sz = roundN f ⟨(55 : Int) + h, rd, r1, r2, 0, 0, 0, sz, 0, false, false, false⟩ from by simp [operK, opX, h4])
  go_enter Try.func40, Try.ntmps40
  go_wp2_with (first | (go_at_call 14; refine (bits_any _ _ _ (by assumption) (by decide) (by decide) (by decide) _).mono ?_; rintro _ _ ⟨rfl, m_, rfl⟩) | (go_at_call 18; refine (f3_any _ (by assumption) _).mono ?_; rintro _ _ ⟨rfl, m_, rfl⟩) | (go_at_call 22; refine (rs2_any _ (by assumption) _).mono ?_; rintro _ _ ⟨rfl, m_, rfl⟩) | (go_at_call 39; refine (rounded_ag _ (by assumption) _ _ _ _ _ _ _ _ _ _ _ _ _).mono ?_; rintro _ w39 ⟨y, hy, rfl, hq⟩; have hgn : GN w w39 := GN.trans gnt hq; have hz := hp_gn hq (g := w.heap.size + 1) (o := .cells #[.int .i64 0, .int .i64 0, .int .i64 0, .int .i64 0, .int .i64 0, .int .i64 0, .int .i64 0, .int .i64 0, .int .i64 0, .bool false, .bool false, .bool false] 25) hpt; obtain ⟨⟨p0, q0⟩, ⟨p1, q1⟩, ⟨p2, q2⟩, ⟨p3, q3⟩, ⟨p4, q4⟩, ⟨p5, q5⟩, ⟨p6, q6⟩, ⟨p7, q7⟩, ⟨p8, q8⟩, ⟨p9, q9⟩, ⟨p10, q10⟩, ⟨p11, q11⟩⟩ := c12 hz; clear hq) | (go_at_call 57; refine Calls.mono (three_any _ _ (f : Int) ?_ ?_ ?_ ?_ _ (w.heap.size + 1 + 1) w.heap.size 0 rd r1 r2 0 0 0 sz 0 false false false ?_ ?_ ?_) ?_; (· omega); (· omega); (· decide); (· decide); (· exact hpt); (· exact hpt); (· omega); rintro _ w57 ⟨y, hy, rfl, hq⟩; have hgn : GN w w57 := GR.gn hq gnt (Nat.le_refl _); have hz := hp_gr hq (by omega) (g := w.heap.size + 1) (o := .cells #[.int .i64 0, .int .i64 0, .int .i64 0, .int .i64 0, .int .i64 0, .int .i64 0, .int .i64 0, .int .i64 0, .int .i64 0, .bool false, .bool false, .bool false] 25) hpt; obtain ⟨⟨p0, q0⟩, ⟨p1, q1⟩, ⟨p2, q2⟩, ⟨p3, q3⟩, ⟨p4, q4⟩, ⟨p5, q5⟩, ⟨p6, q6⟩, ⟨p7, q7⟩, ⟨p8, q8⟩, ⟨p9, q9⟩, ⟨p10, q10⟩, ⟨p11, q11⟩⟩ := c12 hz; clear hq))
  refine fin25 4 rfl rfl rfl ⟨_, hpt, rfl, ?_, ?_⟩
  · rw [unhide hl, ← unhide hf', unhide hy]; rfl
  · exact gnt
set_option maxRecDepth 100000 in
set_option maxHeartbeats 4000000 in
theorem oper_5 (b : Nat) (hb : b < 4294967296) (f : Nat) (sz : Int) (hf : fd b 12 3 = f) (hh : fd b 27 5 = 11) (hs : fd b 20 5 = 0) (rd r1 r2 : Nat) (w : World) : Calls Try.prog 40 #[.int .u32 b, .agg #[.int .i64 0, .int .i64 rd, .int .i64 r1, .int .i64 r2, .int .i64 0, .int .i64 0, .int .i64 0, .int .i64 sz, .int .i64 0, .bool false, .bool false, .bool false]] w fun r w' => r = .returned (insV (operK f 11 0 rd r1 r2 sz)) ∧ GN w w' := by
  have hf8 : f < 8 := hf ▸ fd_lt b 12 3
  have hf' := hide hf
  have tt := True.intro
  have hl := hide (show operK f 11 0 rd r1 r2 sz = roundN f (⟨59, rd, r1, 0, 0, 0, 0, sz, 0, false, false, false⟩ : Ins) from by simp [operK, opX])
  go_enter Try.func40, Try.ntmps40
  go_wp2_with (first | (go_at_call 14; refine (bits_any _ _ _ (by assumption) (by decide) (by decide) (by decide) _).mono ?_; rintro _ _ ⟨rfl, m_, rfl⟩) | (go_at_call 18; refine (f3_any _ (by assumption) _).mono ?_; rintro _ _ ⟨rfl, m_, rfl⟩) | (go_at_call 22; refine (rs2_any _ (by assumption) _).mono ?_; rintro _ _ ⟨rfl, m_, rfl⟩) | (go_at_call 39; refine (rounded_ag _ (by assumption) _ _ _ _ _ _ _ _ _ _ _ _ _).mono ?_; rintro _ w39 ⟨y, hy, rfl, hq⟩; have hgn : GN w w39 := GN.trans gnt hq; have hz := hp_gn hq (g := w.heap.size + 1) (o := .cells #[.int .i64 0, .int .i64 0, .int .i64 0, .int .i64 0, .int .i64 0, .int .i64 0, .int .i64 0, .int .i64 0, .int .i64 0, .bool false, .bool false, .bool false] 25) hpt; obtain ⟨⟨p0, q0⟩, ⟨p1, q1⟩, ⟨p2, q2⟩, ⟨p3, q3⟩, ⟨p4, q4⟩, ⟨p5, q5⟩, ⟨p6, q6⟩, ⟨p7, q7⟩, ⟨p8, q8⟩, ⟨p9, q9⟩, ⟨p10, q10⟩, ⟨p11, q11⟩⟩ := c12 hz; clear hq) | (go_at_call 57; refine Calls.mono (three_any _ _ (f : Int) ?_ ?_ ?_ ?_ _ (w.heap.size + 1 + 1) w.heap.size 0 rd r1 r2 0 0 0 sz 0 false false false ?_ ?_ ?_) ?_; (· omega); (· omega); (· decide); (· decide); (· exact hpt); (· exact hpt); (· omega); rintro _ w57 ⟨y, hy, rfl, hq⟩; have hgn : GN w w57 := GR.gn hq gnt (Nat.le_refl _); have hz := hp_gr hq (by omega) (g := w.heap.size + 1) (o := .cells #[.int .i64 0, .int .i64 0, .int .i64 0, .int .i64 0, .int .i64 0, .int .i64 0, .int .i64 0, .int .i64 0, .int .i64 0, .bool false, .bool false, .bool false] 25) hpt; obtain ⟨⟨p0, q0⟩, ⟨p1, q1⟩, ⟨p2, q2⟩, ⟨p3, q3⟩, ⟨p4, q4⟩, ⟨p5, q5⟩, ⟨p6, q6⟩, ⟨p7, q7⟩, ⟨p8, q8⟩, ⟨p9, q9⟩, ⟨p10, q10⟩, ⟨p11, q11⟩⟩ := c12 hz; clear hq))
  refine fin25 4 rfl rfl rfl ⟨_, hpt, rfl, ?_, ?_⟩
  · rw [unhide hl, ← unhide hf', unhide hy]; rfl
  · exact gnt
set_option maxRecDepth 100000 in
set_option maxHeartbeats 4000000 in
theorem oper_10 (b : Nat) (hb : b < 4294967296) (s f : Nat) (hf : fd b 12 3 = f) (hh : fd b 27 5 = 8) (hs : fd b 20 5 = s) (s0 : s ≠ 0) (rd r1 r2 : Nat) (w : World) : Calls Try.prog 40 #[.int .u32 b, .agg #[.int .i64 0, .int .i64 rd, .int .i64 r1, .int .i64 r2, .int .i64 0, .int .i64 0, .int .i64 0, .int .i64 8, .int .i64 0, .bool false, .bool false, .bool false]] w fun r w' => r = .returned (insV (operK f 8 s rd r1 r2 8)) ∧ GN w w' := by
  have hf8 : f < 8 := hf ▸ fd_lt b 12 3
  have hf' := hide hf
  have n0 := ne_b (show ((s : Nat) : Int) ≠ 0 by omega)
  have hl := hide (show operK f 8 s rd r1 r2 8 = zero from by simp [operK, s0])
  go_enter Try.func40, Try.ntmps40
  go_wp2_with (first | (go_at_call 14; refine (bits_any _ _ _ (by assumption) (by decide) (by decide) (by decide) _).mono ?_; rintro _ _ ⟨rfl, m_, rfl⟩) | (go_at_call 18; refine (f3_any _ (by assumption) _).mono ?_; rintro _ _ ⟨rfl, m_, rfl⟩) | (go_at_call 22; refine (rs2_any _ (by assumption) _).mono ?_; rintro _ _ ⟨rfl, m_, rfl⟩) | (go_at_call 39; refine (rounded_ag _ (by assumption) _ _ _ _ _ _ _ _ _ _ _ _ _).mono ?_; rintro _ w39 ⟨y, hy, rfl, hq⟩; have hgn : GN w w39 := GN.trans gnt hq; have hz := hp_gn hq (g := w.heap.size + 1) (o := .cells #[.int .i64 0, .int .i64 0, .int .i64 0, .int .i64 0, .int .i64 0, .int .i64 0, .int .i64 0, .int .i64 0, .int .i64 0, .bool false, .bool false, .bool false] 25) hpt; obtain ⟨⟨p0, q0⟩, ⟨p1, q1⟩, ⟨p2, q2⟩, ⟨p3, q3⟩, ⟨p4, q4⟩, ⟨p5, q5⟩, ⟨p6, q6⟩, ⟨p7, q7⟩, ⟨p8, q8⟩, ⟨p9, q9⟩, ⟨p10, q10⟩, ⟨p11, q11⟩⟩ := c12 hz; clear hq) | (go_at_call 57; refine Calls.mono (three_any _ _ (f : Int) ?_ ?_ ?_ ?_ _ (w.heap.size + 1 + 1) w.heap.size 0 rd r1 r2 0 0 0 sz 0 false false false ?_ ?_ ?_) ?_; (· omega); (· omega); (· decide); (· decide); (· exact hpt); (· exact hpt); (· omega); rintro _ w57 ⟨y, hy, rfl, hq⟩; have hgn : GN w w57 := GR.gn hq gnt (Nat.le_refl _); have hz := hp_gr hq (by omega) (g := w.heap.size + 1) (o := .cells #[.int .i64 0, .int .i64 0, .int .i64 0, .int .i64 0, .int .i64 0, .int .i64 0, .int .i64 0, .int .i64 0, .int .i64 0, .bool false, .bool false, .bool false] 25) hpt; obtain ⟨⟨p0, q0⟩, ⟨p1, q1⟩, ⟨p2, q2⟩, ⟨p3, q3⟩, ⟨p4, q4⟩, ⟨p5, q5⟩, ⟨p6, q6⟩, ⟨p7, q7⟩, ⟨p8, q8⟩, ⟨p9, q9⟩, ⟨p10, q10⟩, ⟨p11, q11⟩⟩ := c12 hz; clear hq))
  refine fin25 4 rfl rfl rfl ⟨_, hpt, rfl, ?_, ?_⟩
  · rw [unhide hl]; rfl
  · exact gnt
set_option maxRecDepth 100000 in
set_option maxHeartbeats 4000000 in
theorem oper_15 (b : Nat) (hb : b < 4294967296) (s f : Nat) (sz : Int) (hf : fd b 12 3 = f) (hh : fd b 27 5 = 24) (hs : fd b 20 5 = s) (s4 : ¬ s < 4) (rd r1 r2 : Nat) (w : World) : Calls Try.prog 40 #[.int .u32 b, .agg #[.int .i64 0, .int .i64 rd, .int .i64 r1, .int .i64 r2, .int .i64 0, .int .i64 0, .int .i64 0, .int .i64 sz, .int .i64 0, .bool false, .bool false, .bool false]] w fun r w' => r = .returned (insV (operK f 24 s rd r1 r2 sz)) ∧ GN w w' := by
  have hf8 : f < 8 := hf ▸ fd_lt b 12 3
  have hf' := hide hf
  have z4 : ¬ (s : Int) < 4 := by omega
  have hl := hide (show operK f 24 s rd r1 r2 sz = zero from by simp [operK, s4])
  go_enter Try.func40, Try.ntmps40
  go_wp2_with (first | (go_at_call 14; refine (bits_any _ _ _ (by assumption) (by decide) (by decide) (by decide) _).mono ?_; rintro _ _ ⟨rfl, m_, rfl⟩) | (go_at_call 18; refine (f3_any _ (by assumption) _).mono ?_; rintro _ _ ⟨rfl, m_, rfl⟩) | (go_at_call 22; refine (rs2_any _ (by assumption) _).mono ?_; rintro _ _ ⟨rfl, m_, rfl⟩) | (go_at_call 39; refine (rounded_ag _ (by assumption) _ _ _ _ _ _ _ _ _ _ _ _ _).mono ?_; rintro _ w39 ⟨y, hy, rfl, hq⟩; have hgn : GN w w39 := GN.trans gnt hq; have hz := hp_gn hq (g := w.heap.size + 1) (o := .cells #[.int .i64 0, .int .i64 0, .int .i64 0, .int .i64 0, .int .i64 0, .int .i64 0, .int .i64 0, .int .i64 0, .int .i64 0, .bool false, .bool false, .bool false] 25) hpt; obtain ⟨⟨p0, q0⟩, ⟨p1, q1⟩, ⟨p2, q2⟩, ⟨p3, q3⟩, ⟨p4, q4⟩, ⟨p5, q5⟩, ⟨p6, q6⟩, ⟨p7, q7⟩, ⟨p8, q8⟩, ⟨p9, q9⟩, ⟨p10, q10⟩, ⟨p11, q11⟩⟩ := c12 hz; clear hq) | (go_at_call 57; refine Calls.mono (three_any _ _ (f : Int) ?_ ?_ ?_ ?_ _ (w.heap.size + 1 + 1) w.heap.size 0 rd r1 r2 0 0 0 sz 0 false false false ?_ ?_ ?_) ?_; (· omega); (· omega); (· decide); (· decide); (· exact hpt); (· exact hpt); (· omega); rintro _ w57 ⟨y, hy, rfl, hq⟩; have hgn : GN w w57 := GR.gn hq gnt (Nat.le_refl _); have hz := hp_gr hq (by omega) (g := w.heap.size + 1) (o := .cells #[.int .i64 0, .int .i64 0, .int .i64 0, .int .i64 0, .int .i64 0, .int .i64 0, .int .i64 0, .int .i64 0, .int .i64 0, .bool false, .bool false, .bool false] 25) hpt; obtain ⟨⟨p0, q0⟩, ⟨p1, q1⟩, ⟨p2, q2⟩, ⟨p3, q3⟩, ⟨p4, q4⟩, ⟨p5, q5⟩, ⟨p6, q6⟩, ⟨p7, q7⟩, ⟨p8, q8⟩, ⟨p9, q9⟩, ⟨p10, q10⟩, ⟨p11, q11⟩⟩ := c12 hz; clear hq))
  refine fin25 4 rfl rfl rfl ⟨_, hpt, rfl, ?_, ?_⟩
  · rw [unhide hl]; rfl
  · exact gnt
set_option maxRecDepth 100000 in
set_option maxHeartbeats 4000000 in
theorem oper_20 (b : Nat) (hb : b < 4294967296) (s f : Nat) (sz : Int) (hf : fd b 12 3 = f) (hh : fd b 27 5 = 26) (hs : fd b 20 5 = s) (s4 : ¬ s < 4) (rd r1 r2 : Nat) (w : World) : Calls Try.prog 40 #[.int .u32 b, .agg #[.int .i64 0, .int .i64 rd, .int .i64 r1, .int .i64 r2, .int .i64 0, .int .i64 0, .int .i64 0, .int .i64 sz, .int .i64 0, .bool false, .bool false, .bool false]] w fun r w' => r = .returned (insV (operK f 26 s rd r1 r2 sz)) ∧ GN w w' := by
  have hf8 : f < 8 := hf ▸ fd_lt b 12 3
  have hf' := hide hf
  have z4 : ¬ (s : Int) < 4 := by omega
  have hl := hide (show operK f 26 s rd r1 r2 sz = zero from by simp [operK, s4])
  go_enter Try.func40, Try.ntmps40
  go_wp2_with (first | (go_at_call 14; refine (bits_any _ _ _ (by assumption) (by decide) (by decide) (by decide) _).mono ?_; rintro _ _ ⟨rfl, m_, rfl⟩) | (go_at_call 18; refine (f3_any _ (by assumption) _).mono ?_; rintro _ _ ⟨rfl, m_, rfl⟩) | (go_at_call 22; refine (rs2_any _ (by assumption) _).mono ?_; rintro _ _ ⟨rfl, m_, rfl⟩) | (go_at_call 39; refine (rounded_ag _ (by assumption) _ _ _ _ _ _ _ _ _ _ _ _ _).mono ?_; rintro _ w39 ⟨y, hy, rfl, hq⟩; have hgn : GN w w39 := GN.trans gnt hq; have hz := hp_gn hq (g := w.heap.size + 1) (o := .cells #[.int .i64 0, .int .i64 0, .int .i64 0, .int .i64 0, .int .i64 0, .int .i64 0, .int .i64 0, .int .i64 0, .int .i64 0, .bool false, .bool false, .bool false] 25) hpt; obtain ⟨⟨p0, q0⟩, ⟨p1, q1⟩, ⟨p2, q2⟩, ⟨p3, q3⟩, ⟨p4, q4⟩, ⟨p5, q5⟩, ⟨p6, q6⟩, ⟨p7, q7⟩, ⟨p8, q8⟩, ⟨p9, q9⟩, ⟨p10, q10⟩, ⟨p11, q11⟩⟩ := c12 hz; clear hq) | (go_at_call 57; refine Calls.mono (three_any _ _ (f : Int) ?_ ?_ ?_ ?_ _ (w.heap.size + 1 + 1) w.heap.size 0 rd r1 r2 0 0 0 sz 0 false false false ?_ ?_ ?_) ?_; (· omega); (· omega); (· decide); (· decide); (· exact hpt); (· exact hpt); (· omega); rintro _ w57 ⟨y, hy, rfl, hq⟩; have hgn : GN w w57 := GR.gn hq gnt (Nat.le_refl _); have hz := hp_gr hq (by omega) (g := w.heap.size + 1) (o := .cells #[.int .i64 0, .int .i64 0, .int .i64 0, .int .i64 0, .int .i64 0, .int .i64 0, .int .i64 0, .int .i64 0, .int .i64 0, .bool false, .bool false, .bool false] 25) hpt; obtain ⟨⟨p0, q0⟩, ⟨p1, q1⟩, ⟨p2, q2⟩, ⟨p3, q3⟩, ⟨p4, q4⟩, ⟨p5, q5⟩, ⟨p6, q6⟩, ⟨p7, q7⟩, ⟨p8, q8⟩, ⟨p9, q9⟩, ⟨p10, q10⟩, ⟨p11, q11⟩⟩ := c12 hz; clear hq))
  refine fin25 4 rfl rfl rfl ⟨_, hpt, rfl, ?_, ?_⟩
  · rw [unhide hl]; rfl
  · exact gnt
set_option maxRecDepth 100000 in
set_option maxHeartbeats 4000000 in
theorem oper_25 (b : Nat) (hb : b < 4294967296) (sz : Int) (hf : fd b 12 3 = 0) (hh : fd b 27 5 = 30) (hs : fd b 20 5 = 0) (rd r1 r2 : Nat) (w : World) : Calls Try.prog 40 #[.int .u32 b, .agg #[.int .i64 0, .int .i64 rd, .int .i64 r1, .int .i64 r2, .int .i64 0, .int .i64 0, .int .i64 0, .int .i64 sz, .int .i64 0, .bool false, .bool false, .bool false]] w fun r w' => r = .returned (insV (operK 0 30 0 rd r1 r2 sz)) ∧ GN w w' := by
  have hf' := hide hf
  have tt := True.intro
  have hl := hide (show operK 0 30 0 rd r1 r2 sz = (⟨77, rd, r1, 0, 0, 0, 0, sz, 0, false, false, false⟩ : Ins) from by simp [operK, opX])
  go_enter Try.func40, Try.ntmps40
  go_wp2_with (first | (go_at_call 14; refine (bits_any _ _ _ (by assumption) (by decide) (by decide) (by decide) _).mono ?_; rintro _ _ ⟨rfl, m_, rfl⟩) | (go_at_call 18; refine (f3_any _ (by assumption) _).mono ?_; rintro _ _ ⟨rfl, m_, rfl⟩) | (go_at_call 22; refine (rs2_any _ (by assumption) _).mono ?_; rintro _ _ ⟨rfl, m_, rfl⟩) | (go_at_call 39; refine (rounded_ag _ (by assumption) _ _ _ _ _ _ _ _ _ _ _ _ _).mono ?_; rintro _ w39 ⟨y, hy, rfl, hq⟩; have hgn : GN w w39 := GN.trans gnt hq; have hz := hp_gn hq (g := w.heap.size + 1) (o := .cells #[.int .i64 0, .int .i64 0, .int .i64 0, .int .i64 0, .int .i64 0, .int .i64 0, .int .i64 0, .int .i64 0, .int .i64 0, .bool false, .bool false, .bool false] 25) hpt; obtain ⟨⟨p0, q0⟩, ⟨p1, q1⟩, ⟨p2, q2⟩, ⟨p3, q3⟩, ⟨p4, q4⟩, ⟨p5, q5⟩, ⟨p6, q6⟩, ⟨p7, q7⟩, ⟨p8, q8⟩, ⟨p9, q9⟩, ⟨p10, q10⟩, ⟨p11, q11⟩⟩ := c12 hz; clear hq) | (go_at_call 57; refine Calls.mono (three_any _ _ (f : Int) ?_ ?_ ?_ ?_ _ (w.heap.size + 1 + 1) w.heap.size 0 rd r1 r2 0 0 0 sz 0 false false false ?_ ?_ ?_) ?_; (· omega); (· omega); (· decide); (· decide); (· exact hpt); (· exact hpt); (· omega); rintro _ w57 ⟨y, hy, rfl, hq⟩; have hgn : GN w w57 := GR.gn hq gnt (Nat.le_refl _); have hz := hp_gr hq (by omega) (g := w.heap.size + 1) (o := .cells #[.int .i64 0, .int .i64 0, .int .i64 0, .int .i64 0, .int .i64 0, .int .i64 0, .int .i64 0, .int .i64 0, .int .i64 0, .bool false, .bool false, .bool false] 25) hpt; obtain ⟨⟨p0, q0⟩, ⟨p1, q1⟩, ⟨p2, q2⟩, ⟨p3, q3⟩, ⟨p4, q4⟩, ⟨p5, q5⟩, ⟨p6, q6⟩, ⟨p7, q7⟩, ⟨p8, q8⟩, ⟨p9, q9⟩, ⟨p10, q10⟩, ⟨p11, q11⟩⟩ := c12 hz; clear hq))
  refine fin25 4 rfl rfl rfl ⟨_, hpt, rfl, ?_, ?_⟩
  · rw [unhide hl]; rfl
  · exact gnt
end Go.Proofs.Ytopbdiekfhikmaa
namespace Go.Proofs.Ytopbdiekfhikmaa
open Go.RowKit
set_option maxRecDepth 100000 in
set_option maxHeartbeats 4000000 in
theorem oper_1 (b : Nat) (hb : b < 4294967296) (s f : Nat) (sz : Int) (hf : fd b 12 3 = f) (hh : fd b 27 5 = 4) (hs : fd b 20 5 = s) (rd r1 r2 : Nat) (w : World) : Calls Try.prog 40 #[.int .u32 b, .agg #[.int .i64 0, .int .i64 rd, .int .i64 r1, .int .i64 r2, .int .i64 0, .int .i64 0, .int .i64 0, .int .i64 sz, .int .i64 0, .bool false, .bool false, .bool false]] w fun r w' => r = .returned (insV (operK f 4 s rd r1 r2 sz)) ∧ GN w w' := by
  have hf8 : f < 8 := hf ▸ fd_lt b 12 3
  have hf' := hide hf
  have tt := True.intro
  have hl := hide (show operK f 4 s rd r1 r2 sz = if (3 : Int) ≤ (f : Int) then zero else ⟨(64 : Int) + f, rd, r1, r2, 0, 0, 0, sz, 0, false, false, false⟩ from by simp [operK, opX]; norm_cast)
  go_enter Try.func40, Try.ntmps40
  go_wp2_with (first | (go_at_call 14; refine (bits_any _ _ _ (by assumption) (by decide) (by decide) (by decide) _).mono ?_; rintro _ _ ⟨rfl, m_, rfl⟩) | (go_at_call 18; refine (f3_any _ (by assumption) _).mono ?_; rintro _ _ ⟨rfl, m_, rfl⟩) | (go_at_call 22; refine (rs2_any _ (by assumption) _).mono ?_; rintro _ _ ⟨rfl, m_, rfl⟩) | (go_at_call 39; refine (rounded_ag _ (by assumption) _ _ _ _ _ _ _ _ _ _ _ _ _).mono ?_; rintro _ w39 ⟨y, hy, rfl, hq⟩; have hgn : GN w w39 := GN.trans gnt hq; have hz := hp_gn hq (g := w.heap.size + 1) (o := .cells #[.int .i64 0, .int .i64 0, .int .i64 0, .int .i64 0, .int .i64 0, .int .i64 0, .int .i64 0, .int .i64 0, .int .i64 0, .bool false, .bool false, .bool false] 25) hpt; obtain ⟨⟨p0, q0⟩, ⟨p1, q1⟩, ⟨p2, q2⟩, ⟨p3, q3⟩, ⟨p4, q4⟩, ⟨p5, q5⟩, ⟨p6, q6⟩, ⟨p7, q7⟩, ⟨p8, q8⟩, ⟨p9, q9⟩, ⟨p10, q10⟩, ⟨p11, q11⟩⟩ := c12 hz; clear hq) | (go_at_call 57; refine Calls.mono (three_any _ _ (f : Int) ?_ ?_ ?_ ?_ _ (w.heap.size + 1 + 1) w.heap.size 0 rd r1 r2 0 0 0 sz 0 false false false ?_ ?_ ?_) ?_; (· omega); (· omega); (· decide); (· decide); (· exact hpt); (· exact hpt); (· omega); rintro _ w57 ⟨y, hy, rfl, hq⟩; have hgn : GN w w57 := GR.gn hq gnt (Nat.le_refl _); have hz := hp_gr hq (by omega) (g := w.heap.size + 1) (o := .cells #[.int .i64 0, .int .i64 0, .int .i64 0, .int .i64 0, .int .i64 0, .int .i64 0, .int .i64 0, .int .i64 0, .int .i64 0, .bool false, .bool false, .bool false] 25) hpt; obtain ⟨⟨p0, q0⟩, ⟨p1, q1⟩, ⟨p2, q2⟩, ⟨p3, q3⟩, ⟨p4, q4⟩, ⟨p5, q5⟩, ⟨p6, q6⟩, ⟨p7, q7⟩, ⟨p8, q8⟩, ⟨p9, q9⟩, ⟨p10, q10⟩, ⟨p11, q11⟩⟩ := c12 hz; clear hq))
  refine fin25 4 rfl rfl rfl ⟨_, hpt, rfl, ?_, ?_⟩
  · rw [unhide hl, unhide hy]; rfl
  · exact gnt
set_option maxRecDepth 100000 in
set_option maxHeartbeats 4000000 in
theorem oper_6 (b : Nat) (hb : b < 4294967296) (s f : Nat) (sz : Int) (hf : fd b 12 3 = f) (hh : fd b 27 5 = 11) (hs : fd b 20 5 = s) (s0 : s ≠ 0) (rd r1 r2 : Nat) (w : World) : Calls Try.prog 40 #[.int .u32 b, .agg #[.int .i64 0, .int .i64 rd, .int .i64 r1, .int .i64 r2, .int .i64 0, .int .i64 0, .int .i64 0, .int .i64 sz, .int .i64 0, .bool false, .bool false, .bool false]] w fun r w' => r = .returned (insV (operK f 11 s rd r1 r2 sz)) ∧ GN w w' := by
  have hf8 : f < 8 := hf ▸ fd_lt b 12 3
  have hf' := hide hf
  have n0 := ne_b (show ((s : Nat) : Int) ≠ 0 by omega)
  have hl := hide (show operK f 11 s rd r1 r2 sz = zero from by simp [operK, s0])
  go_enter Try.func40, Try.ntmps40
  go_wp2_with (first | (go_at_call 14; refine (bits_any _ _ _ (by assumption) (by decide) (by decide) (by decide) _).mono ?_; rintro _ _ ⟨rfl, m_, rfl⟩) | (go_at_call 18; refine (f3_any _ (by assumption) _).mono ?_; rintro _ _ ⟨rfl, m_, rfl⟩) | (go_at_call 22; refine (rs2_any _ (by assumption) _).mono ?_; rintro _ _ ⟨rfl, m_, rfl⟩) | (go_at_call 39; refine (rounded_ag _ (by assumption) _ _ _ _ _ _ _ _ _ _ _ _ _).mono ?_; rintro _ w39 ⟨y, hy, rfl, hq⟩; have hgn : GN w w39 := GN.trans gnt hq; have hz := hp_gn hq (g := w.heap.size + 1) (o := .cells #[.int .i64 0, .int .i64 0, .int .i64 0, .int .i64 0, .int .i64 0, .int .i64 0, .int .i64 0, .int .i64 0, .int .i64 0, .bool false, .bool false, .bool false] 25) hpt; obtain ⟨⟨p0, q0⟩, ⟨p1, q1⟩, ⟨p2, q2⟩, ⟨p3, q3⟩, ⟨p4, q4⟩, ⟨p5, q5⟩, ⟨p6, q6⟩, ⟨p7, q7⟩, ⟨p8, q8⟩, ⟨p9, q9⟩, ⟨p10, q10⟩, ⟨p11, q11⟩⟩ := c12 hz; clear hq) | (go_at_call 57; refine Calls.mono (three_any _ _ (f : Int) ?_ ?_ ?_ ?_ _ (w.heap.size + 1 + 1) w.heap.size 0 rd r1 r2 0 0 0 sz 0 false false false ?_ ?_ ?_) ?_; (· omega); (· omega); (· decide); (· decide); (· exact hpt); (· exact hpt); (· omega); rintro _ w57 ⟨y, hy, rfl, hq⟩; have hgn : GN w w57 := GR.gn hq gnt (Nat.le_refl _); have hz := hp_gr hq (by omega) (g := w.heap.size + 1) (o := .cells #[.int .i64 0, .int .i64 0, .int .i64 0, .int .i64 0, .int .i64 0, .int .i64 0, .int .i64 0, .int .i64 0, .int .i64 0, .bool false, .bool false, .bool false] 25) hpt; obtain ⟨⟨p0, q0⟩, ⟨p1, q1⟩, ⟨p2, q2⟩, ⟨p3, q3⟩, ⟨p4, q4⟩, ⟨p5, q5⟩, ⟨p6, q6⟩, ⟨p7, q7⟩, ⟨p8, q8⟩, ⟨p9, q9⟩, ⟨p10, q10⟩, ⟨p11, q11⟩⟩ := c12 hz; clear hq))
  refine fin25 4 rfl rfl rfl ⟨_, hpt, rfl, ?_, ?_⟩
  · rw [unhide hl]; rfl
  · exact gnt
set_option maxRecDepth 100000 in
set_option maxHeartbeats 4000000 in
theorem oper_11 (b : Nat) (hb : b < 4294967296) (f : Nat) (sz : Int) (hf : fd b 12 3 = f) (hh : fd b 27 5 = 24) (hs : fd b 20 5 = 0) (rd r1 r2 : Nat) (w : World) : Calls Try.prog 40 #[.int .u32 b, .agg #[.int .i64 0, .int .i64 rd, .int .i64 r1, .int .i64 r2, .int .i64 0, .int .i64 0, .int .i64 0, .int .i64 sz, .int .i64 0, .bool false, .bool false, .bool false]] w fun r w' => r = .returned (insV (operK f 24 0 rd r1 r2 sz)) ∧ GN w w' := by
  have hf8 : f < 8 := hf ▸ fd_lt b 12 3
  have hf' := hide hf
  have tt := True.intro
  have hl := hide (show operK f 24 0 rd r1 r2 sz = roundN f (⟨73, rd, r1, 0, 0, 0, 0, sz, 0, false, false, true⟩ : Ins) from by simp [operK, opX])
  go_enter Try.func40, Try.ntmps40
  go_wp2_with (first | (go_at_call 14; refine (bits_any _ _ _ (by assumption) (by decide) (by decide) (by decide) _).mono ?_; rintro _ _ ⟨rfl, m_, rfl⟩) | (go_at_call 18; refine (f3_any _ (by assumption) _).mono ?_; rintro _ _ ⟨rfl, m_, rfl⟩) | (go_at_call 22; refine (rs2_any _ (by assumption) _).mono ?_; rintro _ _ ⟨rfl, m_, rfl⟩) | (go_at_call 39; refine (rounded_ag _ (by assumption) _ _ _ _ _ _ _ _ _ _ _ _ _).mono ?_; rintro _ w39 ⟨y, hy, rfl, hq⟩; have hgn : GN w w39 := GN.trans gnt hq; have hz := hp_gn hq (g := w.heap.size + 1) (o := .cells #[.int .i64 0, .int .i64 0, .int .i64 0, .int .i64 0, .int .i64 0, .int .i64 0, .int .i64 0, .int .i64 0, .int .i64 0, .bool false, .bool false, .bool false] 25) hpt; obtain ⟨⟨p0, q0⟩, ⟨p1, q1⟩, ⟨p2, q2⟩, ⟨p3, q3⟩, ⟨p4, q4⟩, ⟨p5, q5⟩, ⟨p6, q6⟩, ⟨p7, q7⟩, ⟨p8, q8⟩, ⟨p9, q9⟩, ⟨p10, q10⟩, ⟨p11, q11⟩⟩ := c12 hz; clear hq) | (go_at_call 57; refine Calls.mono (three_any _ _ (f : Int) ?_ ?_ ?_ ?_ _ (w.heap.size + 1 + 1) w.heap.size 0 rd r1 r2 0 0 0 sz 0 false false false ?_ ?_ ?_) ?_; (· omega); (· omega); (· decide); (· decide); (· exact hpt); (· exact hpt); (· omega); rintro _ w57 ⟨y, hy, rfl, hq⟩; have hgn : GN w w57 := GR.gn hq gnt (Nat.le_refl _); have hz := hp_gr hq (by omega) (g := w.heap.size + 1) (o := .cells #[.int .i64 0, .int .i64 0, .int .i64 0, .int .i64 0, .int .i64 0, .int .i64 0, .int .i64 0, .int .i64 0, .int .i64 0, .bool false, .bool false, .bool false] 25) hpt; obtain ⟨⟨p0, q0⟩, ⟨p1, q1⟩, ⟨p2, q2⟩, ⟨p3, q3⟩, ⟨p4, q4⟩, ⟨p5, q5⟩, ⟨p6, q6⟩, ⟨p7, q7⟩, ⟨p8, q8⟩, ⟨p9, q9⟩, ⟨p10, q10⟩, ⟨p11, q11⟩⟩ := c12 hz; clear hq))
  refine fin25 4 rfl rfl rfl ⟨_, hpt, rfl, ?_, ?_⟩
  · rw [unhide hl, ← unhide hf', unhide hy]; rfl
  · exact gnt
set_option maxRecDepth 100000 in
set_option maxHeartbeats 4000000 in
theorem oper_16 (b : Nat) (hb : b < 4294967296) (f : Nat) (sz : Int) (hf : fd b 12 3 = f) (hh : fd b 27 5 = 26) (hs : fd b 20 5 = 0) (rd r1 r2 : Nat) (w : World) : Calls Try.prog 40 #[.int .u32 b, .agg #[.int .i64 0, .int .i64 rd, .int .i64 r1, .int .i64 r2, .int .i64 0, .int .i64 0, .int .i64 0, .int .i64 sz, .int .i64 0, .bool false, .bool false, .bool false]] w fun r w' => r = .returned (insV (operK f 26 0 rd r1 r2 sz)) ∧ GN w w' := by
  have hf8 : f < 8 := hf ▸ fd_lt b 12 3
  have hf' := hide hf
  have tt := True.intro
  have hl := hide (show operK f 26 0 rd r1 r2 sz = roundN f (⟨74, rd, r1, 0, 0, 0, 0, sz, 0, false, false, true⟩ : Ins) from by simp [operK, opX])
  go_enter Try.func40, Try.ntmps40
  go_upto_region 26 with (first | (go_at_call 14; refine (bits_any _ _ _ (by assumption) (by decide) (by decide) (by decide) _).mono ?_; rintro _ _ ⟨rfl, m_, rfl⟩) | (go_at_call 18; refine (f3_any _ (by assumption) _).mono ?_; rintro _ _ ⟨rfl, m_, rfl⟩) | (go_at_call 22; refine (rs2_any _ (by assumption) _).mono ?_; rintro _ _ ⟨rfl, m_, rfl⟩) | (go_at_call 39; refine (rounded_ag _ (by assumption) _ _ _ _ _ _ _ _ _ _ _ _ _).mono ?_; rintro _ w39 ⟨y, hy, rfl, hq⟩; have hgn : GN w w39 := GN.trans gnt hq; have hz := hp_gn hq (g := w.heap.size + 1) (o := .cells #[.int .i64 0, .int .i64 0, .int .i64 0, .int .i64 0, .int .i64 0, .int .i64 0, .int .i64 0, .int .i64 0, .int .i64 0, .bool false, .bool false, .bool false] 25) hpt; obtain ⟨⟨p0, q0⟩, ⟨p1, q1⟩, ⟨p2, q2⟩, ⟨p3, q3⟩, ⟨p4, q4⟩, ⟨p5, q5⟩, ⟨p6, q6⟩, ⟨p7, q7⟩, ⟨p8, q8⟩, ⟨p9, q9⟩, ⟨p10, q10⟩, ⟨p11, q11⟩⟩ := c12 hz; clear hq) | (go_at_call 57; refine Calls.mono (three_any _ _ (f : Int) ?_ ?_ ?_ ?_ _ (w.heap.size + 1 + 1) w.heap.size 0 rd r1 r2 0 0 0 sz 0 false false false ?_ ?_ ?_) ?_; (· omega); (· omega); (· decide); (· decide); (· exact hpt); (· exact hpt); (· omega); rintro _ w57 ⟨y, hy, rfl, hq⟩; have hgn : GN w w57 := GR.gn hq gnt (Nat.le_refl _); have hz := hp_gr hq (by omega) (g := w.heap.size + 1) (o := .cells #[.int .i64 0, .int .i64 0, .int .i64 0, .int .i64 0, .int .i64 0, .int .i64 0, .int .i64 0, .int .i64 0, .int .i64 0, .bool false, .bool false, .bool false] 25) hpt; obtain ⟨⟨p0, q0⟩, ⟨p1, q1⟩, ⟨p2, q2⟩, ⟨p3, q3⟩, ⟨p4, q4⟩, ⟨p5, q5⟩, ⟨p6, q6⟩, ⟨p7, q7⟩, ⟨p8, q8⟩, ⟨p9, q9⟩, ⟨p10, q10⟩, ⟨p11, q11⟩⟩ := c12 hz; clear hq))
  refine cutx (w := w) (z := #[.int .i64 0, .int .i64 0, .int .i64 0, .int .i64 0, .int .i64 0, .int .i64 0, .int .i64 0, .int .i64 0, .int .i64 0, .bool false, .bool false, .bool false]) (x := #[.int .i64 73, .int .i64 (rd : Int), .int .i64 (r1 : Int), .int .i64 0, .int .i64 0, .int .i64 0, .int .i64 0, .int .i64 sz, .int .i64 0, .bool false, .bool false, .bool false]) ?_ ?_ ?_ fun W hgW hx hz0 => ?_
  · exact gnt
  · (repeat (first | with_reducible assumption | with_reducible apply hp_row12 | (with_reducible refine hp_last ?_; · simp) | (with_reducible refine hp_set ?_ ?_; · first | assumption | (simp; done)) | with_reducible refine hp_drewN ?_ | with_reducible refine hp_alloc ?_)); exact heap_set' (heap_set' (hp_drewN (hp_alloc (hp_last rfl))) 3 _) 0 _
  · exact hpt
  obtain ⟨⟨p0, q0⟩, ⟨p1, q1⟩, ⟨p2, q2⟩, ⟨p3, q3⟩, ⟨p4, q4⟩, ⟨p5, q5⟩, ⟨p6, q6⟩, ⟨p7, q7⟩, ⟨p8, q8⟩, ⟨p9, q9⟩, ⟨p10, q10⟩, ⟨p11, q11⟩⟩ := c12 hx
  have W1 := lt_of_heap' hx
  have W2 := lt_of_heap' hz0
  go_wp2_with (first | (go_at_call 14; refine (bits_any _ _ _ (by assumption) (by decide) (by decide) (by decide) _).mono ?_; rintro _ _ ⟨rfl, m_, rfl⟩) | (go_at_call 18; refine (f3_any _ (by assumption) _).mono ?_; rintro _ _ ⟨rfl, m_, rfl⟩) | (go_at_call 22; refine (rs2_any _ (by assumption) _).mono ?_; rintro _ _ ⟨rfl, m_, rfl⟩) | (go_at_call 39; refine (rounded_ag _ (by assumption) _ _ _ _ _ _ _ _ _ _ _ _ _).mono ?_; rintro _ w39 ⟨y, hy, rfl, hq⟩; have hgn : GN w w39 := GN.trans gnt hq; have hz := hp_gn hq (g := w.heap.size + 1) (o := .cells #[.int .i64 0, .int .i64 0, .int .i64 0, .int .i64 0, .int .i64 0, .int .i64 0, .int .i64 0, .int .i64 0, .int .i64 0, .bool false, .bool false, .bool false] 25) hpt; obtain ⟨⟨p0, q0⟩, ⟨p1, q1⟩, ⟨p2, q2⟩, ⟨p3, q3⟩, ⟨p4, q4⟩, ⟨p5, q5⟩, ⟨p6, q6⟩, ⟨p7, q7⟩, ⟨p8, q8⟩, ⟨p9, q9⟩, ⟨p10, q10⟩, ⟨p11, q11⟩⟩ := c12 hz; clear hq) | (go_at_call 57; refine Calls.mono (three_any _ _ (f : Int) ?_ ?_ ?_ ?_ _ (w.heap.size + 1 + 1) w.heap.size 0 rd r1 r2 0 0 0 sz 0 false false false ?_ ?_ ?_) ?_; (· omega); (· omega); (· decide); (· decide); (· exact hpt); (· exact hpt); (· omega); rintro _ w57 ⟨y, hy, rfl, hq⟩; have hgn : GN w w57 := GR.gn hq gnt (Nat.le_refl _); have hz := hp_gr hq (by omega) (g := w.heap.size + 1) (o := .cells #[.int .i64 0, .int .i64 0, .int .i64 0, .int .i64 0, .int .i64 0, .int .i64 0, .int .i64 0, .int .i64 0, .int .i64 0, .bool false, .bool false, .bool false] 25) hpt; obtain ⟨⟨p0, q0⟩, ⟨p1, q1⟩, ⟨p2, q2⟩, ⟨p3, q3⟩, ⟨p4, q4⟩, ⟨p5, q5⟩, ⟨p6, q6⟩, ⟨p7, q7⟩, ⟨p8, q8⟩, ⟨p9, q9⟩, ⟨p10, q10⟩, ⟨p11, q11⟩⟩ := c12 hz; clear hq))
  refine fin25 4 rfl rfl rfl ⟨_, hpt, rfl, ?_, ?_⟩
  · rw [unhide hl, ← unhide hf', unhide hy]; rfl
  · exact gnt
set_option maxRecDepth 100000 in
set_option maxHeartbeats 4000000 in
theorem oper_21 (b : Nat) (hb : b < 4294967296) (sz : Int) (hf : fd b 12 3 = 0) (hh : fd b 27 5 = 28) (hs : fd b 20 5 = 0) (rd r1 r2 : Nat) (w : World) : Calls Try.prog 40 #[.int .u32 b, .agg #[.int .i64 0, .int .i64 rd, .int .i64 r1, .int .i64 r2, .int .i64 0, .int .i64 0, .int .i64 0, .int .i64 sz, .int .i64 0, .bool false, .bool false, .bool false]] w fun r w' => r = .returned (insV (operK 0 28 0 rd r1 r2 sz)) ∧ GN w w' := by
  have hf' := hide hf
  have tt := True.intro
  have hl := hide (show operK 0 28 0 rd r1 r2 sz = (⟨76, rd, r1, 0, 0, 0, 0, sz, 0, false, false, false⟩ : Ins) from by simp [operK, opX])
  go_enter Try.func40, Try.ntmps40
  go_wp2_with (first | (go_at_call 14; refine (bits_any _ _ _ (by assumption) (by decide) (by decide) (by decide) _).mono ?_; rintro _ _ ⟨rfl, m_, rfl⟩) | (go_at_call 18; refine (f3_any _ (by assumption) _).mono ?_; rintro _ _ ⟨rfl, m_, rfl⟩) | (go_at_call 22; refine (rs2_any _ (by assumption) _).mono ?_; rintro _ _ ⟨rfl, m_, rfl⟩) | (go_at_call 39; refine (rounded_ag _ (by assumption) _ _ _ _ _ _ _ _ _ _ _ _ _).mono ?_; rintro _ w39 ⟨y, hy, rfl, hq⟩; have hgn : GN w w39 := GN.trans gnt hq; have hz := hp_gn hq (g := w.heap.size + 1) (o := .cells #[.int .i64 0, .int .i64 0, .int .i64 0, .int .i64 0, .int .i64 0, .int .i64 0, .int .i64 0, .int .i64 0, .int .i64 0, .bool false, .bool false, .bool false] 25) hpt; obtain ⟨⟨p0, q0⟩, ⟨p1, q1⟩, ⟨p2, q2⟩, ⟨p3, q3⟩, ⟨p4, q4⟩, ⟨p5, q5⟩, ⟨p6, q6⟩, ⟨p7, q7⟩, ⟨p8, q8⟩, ⟨p9, q9⟩, ⟨p10, q10⟩, ⟨p11, q11⟩⟩ := c12 hz; clear hq) | (go_at_call 57; refine Calls.mono (three_any _ _ (f : Int) ?_ ?_ ?_ ?_ _ (w.heap.size + 1 + 1) w.heap.size 0 rd r1 r2 0 0 0 sz 0 false false false ?_ ?_ ?_) ?_; (· omega); (· omega); (· decide); (· decide); (· exact hpt); (· exact hpt); (· omega); rintro _ w57 ⟨y, hy, rfl, hq⟩; have hgn : GN w w57 := GR.gn hq gnt (Nat.le_refl _); have hz := hp_gr hq (by omega) (g := w.heap.size + 1) (o := .cells #[.int .i64 0, .int .i64 0, .int .i64 0, .int .i64 0, .int .i64 0, .int .i64 0, .int .i64 0, .int .i64 0, .int .i64 0, .bool false, .bool false, .bool false] 25) hpt; obtain ⟨⟨p0, q0⟩, ⟨p1, q1⟩, ⟨p2, q2⟩, ⟨p3, q3⟩, ⟨p4, q4⟩, ⟨p5, q5⟩, ⟨p6, q6⟩, ⟨p7, q7⟩, ⟨p8, q8⟩, ⟨p9, q9⟩, ⟨p10, q10⟩, ⟨p11, q11⟩⟩ := c12 hz; clear hq))
  refine fin25 4 rfl rfl rfl ⟨_, hpt, rfl, ?_, ?_⟩
  · rw [unhide hl]; rfl
  · exact gnt
set_option maxRecDepth 100000 in
set_option maxHeartbeats 4000000 in
theorem oper_26 (b : Nat) (hb : b < 4294967296) (f : Nat) (sz : Int) (hf : fd b 12 3 = f) (hh : fd b 27 5 = 30) (hs : fd b 20 5 = 0) (f0 : f ≠ 0) (rd r1 r2 : Nat) (w : World) : Calls Try.prog 40 #[.int .u32 b, .agg #[.int .i64 0, .int .i64 rd, .int .i64 r1, .int .i64 r2, .int .i64 0, .int .i64 0, .int .i64 0, .int .i64 sz, .int .i64 0, .bool false, .bool false, .bool false]] w fun r w' => r = .returned (insV (operK f 30 0 rd r1 r2 sz)) ∧ GN w w' := by
  have hf8 : f < 8 := hf ▸ fd_lt b 12 3
  have hf' := hide hf
  have n0 := ne_b (show ((f : Nat) : Int) ≠ 0 by omega)
  have hl := hide (show operK f 30 0 rd r1 r2 sz = zero from by simp [operK, f0])
  go_enter Try.func40, Try.ntmps40
  go_wp2_with (first | (go_at_call 14; refine (bits_any _ _ _ (by assumption) (by decide) (by decide) (by decide) _).mono ?_; rintro _ _ ⟨rfl, m_, rfl⟩) | (go_at_call 18; refine (f3_any _ (by assumption) _).mono ?_; rintro _ _ ⟨rfl, m_, rfl⟩) | (go_at_call 22; refine (rs2_any _ (by assumption) _).mono ?_; rintro _ _ ⟨rfl, m_, rfl⟩) | (go_at_call 39; refine (rounded_ag _ (by assumption) _ _ _ _ _ _ _ _ _ _ _ _ _).mono ?_; rintro _ w39 ⟨y, hy, rfl, hq⟩; have hgn : GN w w39 := GN.trans gnt hq; have hz := hp_gn hq (g := w.heap.size + 1) (o := .cells #[.int .i64 0, .int .i64 0, .int .i64 0, .int .i64 0, .int .i64 0, .int .i64 0, .int .i64 0, .int .i64 0, .int .i64 0, .bool false, .bool false, .bool false] 25) hpt; obtain ⟨⟨p0, q0⟩, ⟨p1, q1⟩, ⟨p2, q2⟩, ⟨p3, q3⟩, ⟨p4, q4⟩, ⟨p5, q5⟩, ⟨p6, q6⟩, ⟨p7, q7⟩, ⟨p8, q8⟩, ⟨p9, q9⟩, ⟨p10, q10⟩, ⟨p11, q11⟩⟩ := c12 hz; clear hq) | (go_at_call 57; refine Calls.mono (three_any _ _ (f : Int) ?_ ?_ ?_ ?_ _ (w.heap.size + 1 + 1) w.heap.size 0 rd r1 r2 0 0 0 sz 0 false false false ?_ ?_ ?_) ?_; (· omega); (· omega); (· decide); (· decide); (· exact hpt); (· exact hpt); (· omega); rintro _ w57 ⟨y, hy, rfl, hq⟩; have hgn : GN w w57 := GR.gn hq gnt (Nat.le_refl _); have hz := hp_gr hq (by omega) (g := w.heap.size + 1) (o := .cells #[.int .i64 0, .int .i64 0, .int .i64 0, .int .i64 0, .int .i64 0, .int .i64 0, .int .i64 0, .int .i64 0, .int .i64 0, .bool false, .bool false, .bool false] 25) hpt; obtain ⟨⟨p0, q0⟩, ⟨p1, q1⟩, ⟨p2, q2⟩, ⟨p3, q3⟩, ⟨p4, q4⟩, ⟨p5, q5⟩, ⟨p6, q6⟩, ⟨p7, q7⟩, ⟨p8, q8⟩, ⟨p9, q9⟩, ⟨p10, q10⟩, ⟨p11, q11⟩⟩ := c12 hz; clear hq))
  refine fin25 4 rfl rfl rfl ⟨_, hpt, rfl, ?_, ?_⟩
  · rw [unhide hl]; rfl
  · exact gnt
end Go.Proofs.Ytopbdiekfhikmaa
namespace Go.Proofs.Ytopbdiekfhikmaa
open Go.RowKit
set_option maxRecDepth 100000 in
set_option maxHeartbeats 4000000 in
theorem oper_2 (b : Nat) (hb : b < 4294967296) (s f : Nat) (sz : Int) (hf : fd b 12 3 = f) (hh : fd b 27 5 = 5) (hs : fd b 20 5 = s) (rd r1 r2 : Nat) (w : World) : Calls Try.prog 40 #[.int .u32 b, .agg #[.int .i64 0, .int .i64 rd, .int .i64 r1, .int .i64 r2, .int .i64 0, .int .i64 0, .int .i64 0, .int .i64 sz, .int .i64 0, .bool false, .bool false, .bool false]] w fun r w' => r = .returned (insV (operK f 5 s rd r1 r2 sz)) ∧ GN w w' := by
  have hf8 : f < 8 := hf ▸ fd_lt b 12 3
  have hf' := hide hf
  have tt := True.intro
  have hl := hide (show operK f 5 s rd r1 r2 sz = if (2 : Int) ≤ (f : Int) then zero else ⟨(67 : Int) + f, rd, r1, r2, 0, 0, 0, sz, 0, false, false, false⟩ from by simp [operK, opX]; norm_cast)
  go_enter Try.func40, Try.ntmps40
  go_wp2_with (first | (go_at_call 14; refine (bits_any _ _ _ (by assumption) (by decide) (by decide) (by decide) _).mono ?_; rintro _ _ ⟨rfl, m_, rfl⟩) | (go_at_call 18; refine (f3_any _ (by assumption) _).mono ?_; rintro _ _ ⟨rfl, m_, rfl⟩) | (go_at_call 22; refine (rs2_any _ (by assumption) _).mono ?_; rintro _ _ ⟨rfl, m_, rfl⟩) | (go_at_call 39; refine (rounded_ag _ (by assumption) _ _ _ _ _ _ _ _ _ _ _ _ _).mono ?_; rintro _ w39 ⟨y, hy, rfl, hq⟩; have hgn : GN w w39 := GN.trans gnt hq; have hz := hp_gn hq (g := w.heap.size + 1) (o := .cells #[.int .i64 0, .int .i64 0, .int .i64 0, .int .i64 0, .int .i64 0, .int .i64 0, .int .i64 0, .int .i64 0, .int .i64 0, .bool false, .bool false, .bool false] 25) hpt; obtain ⟨⟨p0, q0⟩, ⟨p1, q1⟩, ⟨p2, q2⟩, ⟨p3, q3⟩, ⟨p4, q4⟩, ⟨p5, q5⟩, ⟨p6, q6⟩, ⟨p7, q7⟩, ⟨p8, q8⟩, ⟨p9, q9⟩, ⟨p10, q10⟩, ⟨p11, q11⟩⟩ := c12 hz; clear hq) | (go_at_call 57; refine Calls.mono (three_any _ _ (f : Int) ?_ ?_ ?_ ?_ _ (w.heap.size + 1 + 1) w.heap.size 0 rd r1 r2 0 0 0 sz 0 false false false ?_ ?_ ?_) ?_; (· omega); (· omega); (· decide); (· decide); (· exact hpt); (· exact hpt); (· omega); rintro _ w57 ⟨y, hy, rfl, hq⟩; have hgn : GN w w57 := GR.gn hq gnt (Nat.le_refl _); have hz := hp_gr hq (by omega) (g := w.heap.size + 1) (o := .cells #[.int .i64 0, .int .i64 0, .int .i64 0, .int .i64 0, .int .i64 0, .int .i64 0, .int .i64 0, .int .i64 0, .int .i64 0, .bool false, .bool false, .bool false] 25) hpt; obtain ⟨⟨p0, q0⟩, ⟨p1, q1⟩, ⟨p2, q2⟩, ⟨p3, q3⟩, ⟨p4, q4⟩, ⟨p5, q5⟩, ⟨p6, q6⟩, ⟨p7, q7⟩, ⟨p8, q8⟩, ⟨p9, q9⟩, ⟨p10, q10⟩, ⟨p11, q11⟩⟩ := c12 hz; clear hq))
  refine fin25 4 rfl rfl rfl ⟨_, hpt, rfl, ?_, ?_⟩
  · rw [unhide hl, unhide hy]; rfl
  · exact gnt
set_option maxRecDepth 100000 in
set_option maxHeartbeats 4000000 in
theorem oper_7 (b : Nat) (hb : b < 4294967296) (f : Nat) (hf : fd b 12 3 = f) (hh : fd b 27 5 = 8) (hs : fd b 20 5 = 1) (rd r1 r2 : Nat) (w : World) : Calls Try.prog 40 #[.int .u32 b, .agg #[.int .i64 0, .int .i64 rd, .int .i64 r1, .int .i64 r2, .int .i64 0, .int .i64 0, .int .i64 0, .int .i64 4, .int .i64 0, .bool false, .bool false, .bool false]] w fun r w' => r = .returned (insV (operK f 8 1 rd r1 r2 4)) ∧ GN w w' := by
  have hf8 : f < 8 := hf ▸ fd_lt b 12 3
  have hf' := hide hf
  have tt := True.intro
  have hl := hide (show operK f 8 1 rd r1 r2 4 = roundN f (⟨75, rd, r1, 0, 0, 0, 0, 4, 0, false, false, false⟩ : Ins) from by simp [operK, opX])
  go_enter Try.func40, Try.ntmps40
  go_wp2_with (first | (go_at_call 14; refine (bits_any _ _ _ (by assumption) (by decide) (by decide) (by decide) _).mono ?_; rintro _ _ ⟨rfl, m_, rfl⟩) | (go_at_call 18; refine (f3_any _ (by assumption) _).mono ?_; rintro _ _ ⟨rfl, m_, rfl⟩) | (go_at_call 22; refine (rs2_any _ (by assumption) _).mono ?_; rintro _ _ ⟨rfl, m_, rfl⟩) | (go_at_call 39; refine (rounded_ag _ (by assumption) _ _ _ _ _ _ _ _ _ _ _ _ _).mono ?_; rintro _ w39 ⟨y, hy, rfl, hq⟩; have hgn : GN w w39 := GN.trans gnt hq; have hz := hp_gn hq (g := w.heap.size + 1) (o := .cells #[.int .i64 0, .int .i64 0, .int .i64 0, .int .i64 0, .int .i64 0, .int .i64 0, .int .i64 0, .int .i64 0, .int .i64 0, .bool false, .bool false, .bool false] 25) hpt; obtain ⟨⟨p0, q0⟩, ⟨p1, q1⟩, ⟨p2, q2⟩, ⟨p3, q3⟩, ⟨p4, q4⟩, ⟨p5, q5⟩, ⟨p6, q6⟩, ⟨p7, q7⟩, ⟨p8, q8⟩, ⟨p9, q9⟩, ⟨p10, q10⟩, ⟨p11, q11⟩⟩ := c12 hz; clear hq) | (go_at_call 57; refine Calls.mono (three_any _ _ (f : Int) ?_ ?_ ?_ ?_ _ (w.heap.size + 1 + 1) w.heap.size 0 rd r1 r2 0 0 0 sz 0 false false false ?_ ?_ ?_) ?_; (· omega); (· omega); (· decide); (· decide); (· exact hpt); (· exact hpt); (· omega); rintro _ w57 ⟨y, hy, rfl, hq⟩; have hgn : GN w w57 := GR.gn hq gnt (Nat.le_refl _); have hz := hp_gr hq (by omega) (g := w.heap.size + 1) (o := .cells #[.int .i64 0, .int .i64 0, .int .i64 0, .int .i64 0, .int .i64 0, .int .i64 0, .int .i64 0, .int .i64 0, .int .i64 0, .bool false, .bool false, .bool false] 25) hpt; obtain ⟨⟨p0, q0⟩, ⟨p1, q1⟩, ⟨p2, q2⟩, ⟨p3, q3⟩, ⟨p4, q4⟩, ⟨p5, q5⟩, ⟨p6, q6⟩, ⟨p7, q7⟩, ⟨p8, q8⟩, ⟨p9, q9⟩, ⟨p10, q10⟩, ⟨p11, q11⟩⟩ := c12 hz; clear hq))
  refine fin25 4 rfl rfl rfl ⟨_, hpt, rfl, ?_, ?_⟩
  · rw [unhide hl, ← unhide hf', unhide hy]; rfl
  · exact gnt
set_option maxRecDepth 100000 in
set_option maxHeartbeats 4000000 in
theorem oper_12 (b : Nat) (hb : b < 4294967296) (f : Nat) (sz : Int) (hf : fd b 12 3 = f) (hh : fd b 27 5 = 24) (hs : fd b 20 5 = 1) (rd r1 r2 : Nat) (w : World) : Calls Try.prog 40 #[.int .u32 b, .agg #[.int .i64 0, .int .i64 rd, .int .i64 r1, .int .i64 r2, .int .i64 0, .int .i64 0, .int .i64 0, .int .i64 sz, .int .i64 0, .bool false, .bool false, .bool false]] w fun r w' => r = .returned (insV (operK f 24 1 rd r1 r2 sz)) ∧ GN w w' := by
  have hf8 : f < 8 := hf ▸ fd_lt b 12 3
  have hf' := hide hf
  have tt := True.intro
  have hl := hide (show operK f 24 1 rd r1 r2 sz = roundN f (⟨73, rd, r1, 0, 0, 0, 0, sz, 0, false, true, true⟩ : Ins) from by simp [operK, opX])
  go_enter Try.func40, Try.ntmps40
  go_wp2_with (first | (go_at_call 14; refine (bits_any _ _ _ (by assumption) (by decide) (by decide) (by decide) _).mono ?_; rintro _ _ ⟨rfl, m_, rfl⟩) | (go_at_call 18; refine (f3_any _ (by assumption) _).mono ?_; rintro _ _ ⟨rfl, m_, rfl⟩) | (go_at_call 22; refine (rs2_any _ (by assumption) _).mono ?_; rintro _ _ ⟨rfl, m_, rfl⟩) | (go_at_call 39; refine (rounded_ag _ (by assumption) _ _ _ _ _ _ _ _ _ _ _ _ _).mono ?_; rintro _ w39 ⟨y, hy, rfl, hq⟩; have hgn : GN w w39 := GN.trans gnt hq; have hz := hp_gn hq (g := w.heap.size + 1) (o := .cells #[.int .i64 0, .int .i64 0, .int .i64 0, .int .i64 0, .int .i64 0, .int .i64 0, .int .i64 0, .int .i64 0, .int .i64 0, .bool false, .bool false, .bool false] 25) hpt; obtain ⟨⟨p0, q0⟩, ⟨p1, q1⟩, ⟨p2, q2⟩, ⟨p3, q3⟩, ⟨p4, q4⟩, ⟨p5, q5⟩, ⟨p6, q6⟩, ⟨p7, q7⟩, ⟨p8, q8⟩, ⟨p9, q9⟩, ⟨p10, q10⟩, ⟨p11, q11⟩⟩ := c12 hz; clear hq) | (go_at_call 57; refine Calls.mono (three_any _ _ (f : Int) ?_ ?_ ?_ ?_ _ (w.heap.size + 1 + 1) w.heap.size 0 rd r1 r2 0 0 0 sz 0 false false false ?_ ?_ ?_) ?_; (· omega); (· omega); (· decide); (· decide); (· exact hpt); (· exact hpt); (· omega); rintro _ w57 ⟨y, hy, rfl, hq⟩; have hgn : GN w w57 := GR.gn hq gnt (Nat.le_refl _); have hz := hp_gr hq (by omega) (g := w.heap.size + 1) (o := .cells #[.int .i64 0, .int .i64 0, .int .i64 0, .int .i64 0, .int .i64 0, .int .i64 0, .int .i64 0, .int .i64 0, .int .i64 0, .bool false, .bool false, .bool false] 25) hpt; obtain ⟨⟨p0, q0⟩, ⟨p1, q1⟩, ⟨p2, q2⟩, ⟨p3, q3⟩, ⟨p4, q4⟩, ⟨p5, q5⟩, ⟨p6, q6⟩, ⟨p7, q7⟩, ⟨p8, q8⟩, ⟨p9, q9⟩, ⟨p10, q10⟩, ⟨p11, q11⟩⟩ := c12 hz; clear hq))
  refine fin25 4 rfl rfl rfl ⟨_, hpt, rfl, ?_, ?_⟩
  · rw [unhide hl, ← unhide hf', unhide hy]; rfl
  · exact gnt
set_option maxRecDepth 100000 in
set_option maxHeartbeats 4000000 in
theorem oper_17 (b : Nat) (hb : b < 4294967296) (f : Nat) (sz : Int) (hf : fd b 12 3 = f) (hh : fd b 27 5 = 26) (hs : fd b 20 5 = 1) (rd r1 r2 : Nat) (w : World) : Calls Try.prog 40 #[.int .u32 b, .agg #[.int .i64 0, .int .i64 rd, .int .i64 r1, .int .i64 r2, .int .i64 0, .int .i64 0, .int .i64 0, .int .i64 sz, .int .i64 0, .bool false, .bool false, .bool false]] w fun r w' => r = .returned (insV (operK f 26 1 rd r1 r2 sz)) ∧ GN w w' := by
  have hf8 : f < 8 := hf ▸ fd_lt b 12 3
  have hf' := hide hf
  have tt := True.intro
  have hl := hide (show operK f 26 1 rd r1 r2 sz = roundN f (⟨74, rd, r1, 0, 0, 0, 0, sz, 0, false, true, true⟩ : Ins) from by simp [operK, opX])
  go_enter Try.func40, Try.ntmps40
  go_upto_region 26 with (first | (go_at_call 14; refine (bits_any _ _ _ (by assumption) (by decide) (by decide) (by decide) _).mono ?_; rintro _ _ ⟨rfl, m_, rfl⟩) | (go_at_call 18; refine (f3_any _ (by assumption) _).mono ?_; rintro _ _ ⟨rfl, m_, rfl⟩) | (go_at_call 22; refine (rs2_any _ (by assumption) _).mono ?_; rintro _ _ ⟨rfl, m_, rfl⟩) | (go_at_call 39; refine (rounded_ag _ (by assumption) _ _ _ _ _ _ _ _ _ _ _ _ _).mono ?_; rintro _ w39 ⟨y, hy, rfl, hq⟩; have hgn : GN w w39 := GN.trans gnt hq; have hz := hp_gn hq (g := w.heap.size + 1) (o := .cells #[.int .i64 0, .int .i64 0, .int .i64 0, .int .i64 0, .int .i64 0, .int .i64 0, .int .i64 0, .int .i64 0, .int .i64 0, .bool false, .bool false, .bool false] 25) hpt; obtain ⟨⟨p0, q0⟩, ⟨p1, q1⟩, ⟨p2, q2⟩, ⟨p3, q3⟩, ⟨p4, q4⟩, ⟨p5, q5⟩, ⟨p6, q6⟩, ⟨p7, q7⟩, ⟨p8, q8⟩, ⟨p9, q9⟩, ⟨p10, q10⟩, ⟨p11, q11⟩⟩ := c12 hz; clear hq) | (go_at_call 57; refine Calls.mono (three_any _ _ (f : Int) ?_ ?_ ?_ ?_ _ (w.heap.size + 1 + 1) w.heap.size 0 rd r1 r2 0 0 0 sz 0 false false false ?_ ?_ ?_) ?_; (· omega); (· omega); (· decide); (· decide); (· exact hpt); (· exact hpt); (· omega); rintro _ w57 ⟨y, hy, rfl, hq⟩; have hgn : GN w w57 := GR.gn hq gnt (Nat.le_refl _); have hz := hp_gr hq (by omega) (g := w.heap.size + 1) (o := .cells #[.int .i64 0, .int .i64 0, .int .i64 0, .int .i64 0, .int .i64 0, .int .i64 0, .int .i64 0, .int .i64 0, .int .i64 0, .bool false, .bool false, .bool false] 25) hpt; obtain ⟨⟨p0, q0⟩, ⟨p1, q1⟩, ⟨p2, q2⟩, ⟨p3, q3⟩, ⟨p4, q4⟩, ⟨p5, q5⟩, ⟨p6, q6⟩, ⟨p7, q7⟩, ⟨p8, q8⟩, ⟨p9, q9⟩, ⟨p10, q10⟩, ⟨p11, q11⟩⟩ := c12 hz; clear hq))
  refine cutx (w := w) (z := #[.int .i64 0, .int .i64 0, .int .i64 0, .int .i64 0, .int .i64 0, .int .i64 0, .int .i64 0, .int .i64 0, .int .i64 0, .bool false, .bool false, .bool false]) (x := #[.int .i64 73, .int .i64 (rd : Int), .int .i64 (r1 : Int), .int .i64 0, .int .i64 0, .int .i64 0, .int .i64 0, .int .i64 sz, .int .i64 0, .bool false, .bool false, .bool false]) ?_ ?_ ?_ fun W hgW hx hz0 => ?_
  · exact gnt
  · (repeat (first | with_reducible assumption | with_reducible apply hp_row12 | (with_reducible refine hp_last ?_; · simp) | (with_reducible refine hp_set ?_ ?_; · first | assumption | (simp; done)) | with_reducible refine hp_drewN ?_ | with_reducible refine hp_alloc ?_)); exact heap_set' (heap_set' (hp_drewN (hp_alloc (hp_last rfl))) 3 _) 0 _
  · exact hpt
  obtain ⟨⟨p0, q0⟩, ⟨p1, q1⟩, ⟨p2, q2⟩, ⟨p3, q3⟩, ⟨p4, q4⟩, ⟨p5, q5⟩, ⟨p6, q6⟩, ⟨p7, q7⟩, ⟨p8, q8⟩, ⟨p9, q9⟩, ⟨p10, q10⟩, ⟨p11, q11⟩⟩ := c12 hx
  have W1 := lt_of_heap' hx
  have W2 := lt_of_heap' hz0
  go_wp2_with (first | (go_at_call 14; refine (bits_any _ _ _ (by assumption) (by decide) (by decide) (by decide) _).mono ?_; rintro _ _ ⟨rfl, m_, rfl⟩) | (go_at_call 18; refine (f3_any _ (by assumption) _).mono ?_; rintro _ _ ⟨rfl, m_, rfl⟩) | (go_at_call 22; refine (rs2_any _ (by assumption) _).mono ?_; rintro _ _ ⟨rfl, m_, rfl⟩) | (go_at_call 39; refine (rounded_ag _ (by assumption) _ _ _ _ _ _ _ _ _ _ _ _ _).mono ?_; rintro _ w39 ⟨y, hy, rfl, hq⟩; have hgn : GN w w39 := GN.trans gnt hq; have hz := hp_gn hq (g := w.heap.size + 1) (o := .cells #[.int .i64 0, .int .i64 0, .int .i64 0, .int .i64 0, .int .i64 0, .int .i64 0, .int .i64 0, .int .i64 0, .int .i64 0, .bool false, .bool false, .bool false] 25) hpt; obtain ⟨⟨p0, q0⟩, ⟨p1, q1⟩, ⟨p2, q2⟩, ⟨p3, q3⟩, ⟨p4, q4⟩, ⟨p5, q5⟩, ⟨p6, q6⟩, ⟨p7, q7⟩, ⟨p8, q8⟩, ⟨p9, q9⟩, ⟨p10, q10⟩, ⟨p11, q11⟩⟩ := c12 hz; clear hq) | (go_at_call 57; refine Calls.mono (three_any _ _ (f : Int) ?_ ?_ ?_ ?_ _ (w.heap.size + 1 + 1) w.heap.size 0 rd r1 r2 0 0 0 sz 0 false false false ?_ ?_ ?_) ?_; (· omega); (· omega); (· decide); (· decide); (· exact hpt); (· exact hpt); (· omega); rintro _ w57 ⟨y, hy, rfl, hq⟩; have hgn : GN w w57 := GR.gn hq gnt (Nat.le_refl _); have hz := hp_gr hq (by omega) (g := w.heap.size + 1) (o := .cells #[.int .i64 0, .int .i64 0, .int .i64 0, .int .i64 0, .int .i64 0, .int .i64 0, .int .i64 0, .int .i64 0, .int .i64 0, .bool false, .bool false, .bool false] 25) hpt; obtain ⟨⟨p0, q0⟩, ⟨p1, q1⟩, ⟨p2, q2⟩, ⟨p3, q3⟩, ⟨p4, q4⟩, ⟨p5, q5⟩, ⟨p6, q6⟩, ⟨p7, q7⟩, ⟨p8, q8⟩, ⟨p9, q9⟩, ⟨p10, q10⟩, ⟨p11, q11⟩⟩ := c12 hz; clear hq))
  refine fin25 4 rfl rfl rfl ⟨_, hpt, rfl, ?_, ?_⟩
  · rw [unhide hl, ← unhide hf', unhide hy]; rfl
  · exact gnt
set_option maxRecDepth 100000 in
set_option maxHeartbeats 4000000 in
theorem oper_22 (b : Nat) (hb : b < 4294967296) (sz : Int) (hf : fd b 12 3 = 1) (hh : fd b 27 5 = 28) (hs : fd b 20 5 = 0) (rd r1 r2 : Nat) (w : World) : Calls Try.prog 40 #[.int .u32 b, .agg #[.int .i64 0, .int .i64 rd, .int .i64 r1, .int .i64 r2, .int .i64 0, .int .i64 0, .int .i64 0, .int .i64 sz, .int .i64 0, .bool false, .bool false, .bool false]] w fun r w' => r = .returned (insV (operK 1 28 0 rd r1 r2 sz)) ∧ GN w w' := by
  have hf' := hide hf
  have tt := True.intro
  have hl := hide (show operK 1 28 0 rd r1 r2 sz = (⟨72, rd, r1, 0, 0, 0, 0, sz, 0, false, false, false⟩ : Ins) from by simp [operK, opX])
  go_enter Try.func40, Try.ntmps40
  go_wp2_with (first | (go_at_call 14; refine (bits_any _ _ _ (by assumption) (by decide) (by decide) (by decide) _).mono ?_; rintro _ _ ⟨rfl, m_, rfl⟩) | (go_at_call 18; refine (f3_any _ (by assumption) _).mono ?_; rintro _ _ ⟨rfl, m_, rfl⟩) | (go_at_call 22; refine (rs2_any _ (by assumption) _).mono ?_; rintro _ _ ⟨rfl, m_, rfl⟩) | (go_at_call 39; refine (rounded_ag _ (by assumption) _ _ _ _ _ _ _ _ _ _ _ _ _).mono ?_; rintro _ w39 ⟨y, hy, rfl, hq⟩; have hgn : GN w w39 := GN.trans gnt hq; have hz := hp_gn hq (g := w.heap.size + 1) (o := .cells #[.int .i64 0, .int .i64 0, .int .i64 0, .int .i64 0, .int .i64 0, .int .i64 0, .int .i64 0, .int .i64 0, .int .i64 0, .bool false, .bool false, .bool false] 25) hpt; obtain ⟨⟨p0, q0⟩, ⟨p1, q1⟩, ⟨p2, q2⟩, ⟨p3, q3⟩, ⟨p4, q4⟩, ⟨p5, q5⟩, ⟨p6, q6⟩, ⟨p7, q7⟩, ⟨p8, q8⟩, ⟨p9, q9⟩, ⟨p10, q10⟩, ⟨p11, q11⟩⟩ := c12 hz; clear hq) | (go_at_call 57; refine Calls.mono (three_any _ _ (f : Int) ?_ ?_ ?_ ?_ _ (w.heap.size + 1 + 1) w.heap.size 0 rd r1 r2 0 0 0 sz 0 false false false ?_ ?_ ?_) ?_; (· omega); (· omega); (· decide); (· decide); (· exact hpt); (· exact hpt); (· omega); rintro _ w57 ⟨y, hy, rfl, hq⟩; have hgn : GN w w57 := GR.gn hq gnt (Nat.le_refl _); have hz := hp_gr hq (by omega) (g := w.heap.size + 1) (o := .cells #[.int .i64 0, .int .i64 0, .int .i64 0, .int .i64 0, .int .i64 0, .int .i64 0, .int .i64 0, .int .i64 0, .int .i64 0, .bool false, .bool false, .bool false] 25) hpt; obtain ⟨⟨p0, q0⟩, ⟨p1, q1⟩, ⟨p2, q2⟩, ⟨p3, q3⟩, ⟨p4, q4⟩, ⟨p5, q5⟩, ⟨p6, q6⟩, ⟨p7, q7⟩, ⟨p8, q8⟩, ⟨p9, q9⟩, ⟨p10, q10⟩, ⟨p11, q11⟩⟩ := c12 hz; clear hq))
  refine fin25 4 rfl rfl rfl ⟨_, hpt, rfl, ?_, ?_⟩
  · rw [unhide hl]; rfl
  · exact gnt
set_option maxRecDepth 100000 in
set_option maxHeartbeats 4000000 in
theorem oper_27 (b : Nat) (hb : b < 4294967296) (s f : Nat) (sz : Int) (hf : fd b 12 3 = f) (hh : fd b 27 5 = 30) (hs : fd b 20 5 = s) (s0 : s ≠ 0) (rd r1 r2 : Nat) (w : World) : Calls Try.prog 40 #[.int .u32 b, .agg #[.int .i64 0, .int .i64 rd, .int .i64 r1, .int .i64 r2, .int .i64 0, .int .i64 0, .int .i64 0, .int .i64 sz, .int .i64 0, .bool false, .bool false, .bool false]] w fun r w' => r = .returned (insV (operK f 30 s rd r1 r2 sz)) ∧ GN w w' := by
  have hf8 : f < 8 := hf ▸ fd_lt b 12 3
  have hf' := hide hf
  have n0 := ne_b (show ((s : Nat) : Int) ≠ 0 by omega)
  have hl := hide (show operK f 30 s rd r1 r2 sz = zero from by simp [operK, s0])
  go_enter Try.func40, Try.ntmps40
  go_wp2_with (first | (go_at_call 14; refine (bits_any _ _ _ (by assumption) (by decide) (by decide) (by decide) _).mono ?_; rintro _ _ ⟨rfl, m_, rfl⟩) | (go_at_call 18; refine (f3_any _ (by assumption) _).mono ?_; rintro _ _ ⟨rfl, m_, rfl⟩) | (go_at_call 22; refine (rs2_any _ (by assumption) _).mono ?_; rintro _ _ ⟨rfl, m_, rfl⟩) | (go_at_call 39; refine (rounded_ag _ (by assumption) _ _ _ _ _ _ _ _ _ _ _ _ _).mono ?_; rintro _ w39 ⟨y, hy, rfl, hq⟩; have hgn : GN w w39 := GN.trans gnt hq; have hz := hp_gn hq (g := w.heap.size + 1) (o := .cells #[.int .i64 0, .int .i64 0, .int .i64 0, .int .i64 0, .int .i64 0, .int .i64 0, .int .i64 0, .int .i64 0, .int .i64 0, .bool false, .bool false, .bool false] 25) hpt; obtain ⟨⟨p0, q0⟩, ⟨p1, q1⟩, ⟨p2, q2⟩, ⟨p3, q3⟩, ⟨p4, q4⟩, ⟨p5, q5⟩, ⟨p6, q6⟩, ⟨p7, q7⟩, ⟨p8, q8⟩, ⟨p9, q9⟩, ⟨p10, q10⟩, ⟨p11, q11⟩⟩ := c12 hz; clear hq) | (go_at_call 57; refine Calls.mono (three_any _ _ (f : Int) ?_ ?_ ?_ ?_ _ (w.heap.size + 1 + 1) w.heap.size 0 rd r1 r2 0 0 0 sz 0 false false false ?_ ?_ ?_) ?_; (· omega); (· omega); (· decide); (· decide); (· exact hpt); (· exact hpt); (· omega); rintro _ w57 ⟨y, hy, rfl, hq⟩; have hgn : GN w w57 := GR.gn hq gnt (Nat.le_refl _); have hz := hp_gr hq (by omega) (g := w.heap.size + 1) (o := .cells #[.int .i64 0, .int .i64 0, .int .i64 0, .int .i64 0, .int .i64 0, .int .i64 0, .int .i64 0, .int .i64 0, .int .i64 0, .bool false, .bool false, .bool false] 25) hpt; obtain ⟨⟨p0, q0⟩, ⟨p1, q1⟩, ⟨p2, q2⟩, ⟨p3, q3⟩, ⟨p4, q4⟩, ⟨p5, q5⟩, ⟨p6, q6⟩, ⟨p7, q7⟩, ⟨p8, q8⟩, ⟨p9, q9⟩, ⟨p10, q10⟩, ⟨p11, q11⟩⟩ := c12 hz; clear hq))
  refine fin25 4 rfl rfl rfl ⟨_, hpt, rfl, ?_, ?_⟩
  · rw [unhide hl]; rfl
  · exact gnt
end Go.Proofs.Ytopbdiekfhikmaa
namespace Go.Proofs.Ytopbdiekfhikmaa
open Go.RowKit
set_option maxRecDepth 100000 in
set_option maxHeartbeats 4000000 in
theorem oper_3 (b : Nat) (hb : b < 4294967296) (s f : Nat) (sz : Int) (hf : fd b 12 3 = f) (hh : fd b 27 5 = 20) (hs : fd b 20 5 = s) (f2 : 2 < f) (rd r1 r2 : Nat) (w : World) : Calls Try.prog 40 #[.int .u32 b, .agg #[.int .i64 0, .int .i64 rd, .int .i64 r1, .int .i64 r2, .int .i64 0, .int .i64 0, .int .i64 0, .int .i64 sz, .int .i64 0, .bool false, .bool false, .bool false]] w fun r w' => r = .returned (insV (operK f 20 s rd r1 r2 sz)) ∧ GN w w' := by
  have hf8 : f < 8 := hf ▸ fd_lt b 12 3
  have hf' := hide hf
  have z2 : (2 : Int) < f := by omega
  have hl := hide (show operK f 20 s rd r1 r2 sz = zero from by simp [operK, f2])
  go_enter Try.func40, Try.ntmps40
  go_wp2_with (first | (go_at_call 14; refine (bits_any _ _ _ (by assumption) (by decide) (by decide) (by decide) _).mono ?_; rintro _ _ ⟨rfl, m_, rfl⟩) | (go_at_call 18; refine (f3_any _ (by assumption) _).mono ?_; rintro _ _ ⟨rfl, m_, rfl⟩) | (go_at_call 22; refine (rs2_any _ (by assumption) _).mono ?_; rintro _ _ ⟨rfl, m_, rfl⟩) | (go_at_call 39; refine (rounded_ag _ (by assumption) _ _ _ _ _ _ _ _ _ _ _ _ _).mono ?_; rintro _ w39 ⟨y, hy, rfl, hq⟩; have hgn : GN w w39 := GN.trans gnt hq; have hz := hp_gn hq (g := w.heap.size + 1) (o := .cells #[.int .i64 0, .int .i64 0, .int .i64 0, .int .i64 0, .int .i64 0, .int .i64 0, .int .i64 0, .int .i64 0, .int .i64 0, .bool false, .bool false, .bool false] 25) hpt; obtain ⟨⟨p0, q0⟩, ⟨p1, q1⟩, ⟨p2, q2⟩, ⟨p3, q3⟩, ⟨p4, q4⟩, ⟨p5, q5⟩, ⟨p6, q6⟩, ⟨p7, q7⟩, ⟨p8, q8⟩, ⟨p9, q9⟩, ⟨p10, q10⟩, ⟨p11, q11⟩⟩ := c12 hz; clear hq) | (go_at_call 57; refine Calls.mono (three_any _ _ (f : Int) ?_ ?_ ?_ ?_ _ (w.heap.size + 1 + 1) w.heap.size 0 rd r1 r2 0 0 0 sz 0 false false false ?_ ?_ ?_) ?_; (· omega); (· omega); (· decide); (· decide); (· exact hpt); (· exact hpt); (· omega); rintro _ w57 ⟨y, hy, rfl, hq⟩; have hgn : GN w w57 := GR.gn hq gnt (Nat.le_refl _); have hz := hp_gr hq (by omega) (g := w.heap.size + 1) (o := .cells #[.int .i64 0, .int .i64 0, .int .i64 0, .int .i64 0, .int .i64 0, .int .i64 0, .int .i64 0, .int .i64 0, .int .i64 0, .bool false, .bool false, .bool false] 25) hpt; obtain ⟨⟨p0, q0⟩, ⟨p1, q1⟩, ⟨p2, q2⟩, ⟨p3, q3⟩, ⟨p4, q4⟩, ⟨p5, q5⟩, ⟨p6, q6⟩, ⟨p7, q7⟩, ⟨p8, q8⟩, ⟨p9, q9⟩, ⟨p10, q10⟩, ⟨p11, q11⟩⟩ := c12 hz; clear hq))
  refine fin25 4 rfl rfl rfl ⟨_, hpt, rfl, ?_, ?_⟩
  · rw [unhide hl]; rfl
  · exact gnt
set_option maxRecDepth 100000 in
set_option maxHeartbeats 4000000 in
theorem oper_8 (b : Nat) (hb : b < 4294967296) (s f : Nat) (hf : fd b 12 3 = f) (hh : fd b 27 5 = 8) (hs : fd b 20 5 = s) (s0 : s ≠ 1) (rd r1 r2 : Nat) (w : World) : Calls Try.prog 40 #[.int .u32 b, .agg #[.int .i64 0, .int .i64 rd, .int .i64 r1, .int .i64 r2, .int .i64 0, .int .i64 0, .int .i64 0, .int .i64 4, .int .i64 0, .bool false, .bool false, .bool false]] w fun r w' => r = .returned (insV (operK f 8 s rd r1 r2 4)) ∧ GN w w' := by
  have hf8 : f < 8 := hf ▸ fd_lt b 12 3
  have hf' := hide hf
  have n1 := ne_b (show ((s : Nat) : Int) ≠ 1 by omega)
  have hl := hide (show operK f 8 s rd r1 r2 4 = zero from by simp [operK, s0])
  go_enter Try.func40, Try.ntmps40
  go_wp2_with (first | (go_at_call 14; refine (bits_any _ _ _ (by assumption) (by decide) (by decide) (by decide) _).mono ?_; rintro _ _ ⟨rfl, m_, rfl⟩) | (go_at_call 18; refine (f3_any _ (by assumption) _).mono ?_; rintro _ _ ⟨rfl, m_, rfl⟩) | (go_at_call 22; refine (rs2_any _ (by assumption) _).mono ?_; rintro _ _ ⟨rfl, m_, rfl⟩) | (go_at_call 39; refine (rounded_ag _ (by assumption) _ _ _ _ _ _ _ _ _ _ _ _ _).mono ?_; rintro _ w39 ⟨y, hy, rfl, hq⟩; have hgn : GN w w39 := GN.trans gnt hq; have hz := hp_gn hq (g := w.heap.size + 1) (o := .cells #[.int .i64 0, .int .i64 0, .int .i64 0, .int .i64 0, .int .i64 0, .int .i64 0, .int .i64 0, .int .i64 0, .int .i64 0, .bool false, .bool false, .bool false] 25) hpt; obtain ⟨⟨p0, q0⟩, ⟨p1, q1⟩, ⟨p2, q2⟩, ⟨p3, q3⟩, ⟨p4, q4⟩, ⟨p5, q5⟩, ⟨p6, q6⟩, ⟨p7, q7⟩, ⟨p8, q8⟩, ⟨p9, q9⟩, ⟨p10, q10⟩, ⟨p11, q11⟩⟩ := c12 hz; clear hq) | (go_at_call 57; refine Calls.mono (three_any _ _ (f : Int) ?_ ?_ ?_ ?_ _ (w.heap.size + 1 + 1) w.heap.size 0 rd r1 r2 0 0 0 sz 0 false false false ?_ ?_ ?_) ?_; (· omega); (· omega); (· decide); (· decide); (· exact hpt); (· exact hpt); (· omega); rintro _ w57 ⟨y, hy, rfl, hq⟩; have hgn : GN w w57 := GR.gn hq gnt (Nat.le_refl _); have hz := hp_gr hq (by omega) (g := w.heap.size + 1) (o := .cells #[.int .i64 0, .int .i64 0, .int .i64 0, .int .i64 0, .int .i64 0, .int .i64 0, .int .i64 0, .int .i64 0, .int .i64 0, .bool false, .bool false, .bool false] 25) hpt; obtain ⟨⟨p0, q0⟩, ⟨p1, q1⟩, ⟨p2, q2⟩, ⟨p3, q3⟩, ⟨p4, q4⟩, ⟨p5, q5⟩, ⟨p6, q6⟩, ⟨p7, q7⟩, ⟨p8, q8⟩, ⟨p9, q9⟩, ⟨p10, q10⟩, ⟨p11, q11⟩⟩ := c12 hz; clear hq))
  refine fin25 4 rfl rfl rfl ⟨_, hpt, rfl, ?_, ?_⟩
  · rw [unhide hl]; rfl
  · exact gnt
set_option maxRecDepth 100000 in
set_option maxHeartbeats 4000000 in
theorem oper_13 (b : Nat) (hb : b < 4294967296) (f : Nat) (sz : Int) (hf : fd b 12 3 = f) (hh : fd b 27 5 = 24) (hs : fd b 20 5 = 2) (rd r1 r2 : Nat) (w : World) : Calls Try.prog 40 #[.int .u32 b, .agg #[.int .i64 0, .int .i64 rd, .int .i64 r1, .int .i64 r2, .int .i64 0, .int .i64 0, .int .i64 0, .int .i64 sz, .int .i64 0, .bool false, .bool false, .bool false]] w fun r w' => r = .returned (insV (operK f 24 2 rd r1 r2 sz)) ∧ GN w w' := by
  have hf8 : f < 8 := hf ▸ fd_lt b 12 3
  have hf' := hide hf
  have tt := True.intro
  have hl := hide (show operK f 24 2 rd r1 r2 sz = roundN f (⟨73, rd, r1, 0, 0, 0, 0, sz, 0, false, false, false⟩ : Ins) from by simp [operK, opX])
  go_enter Try.func40, Try.ntmps40
  go_wp2_with (first | (go_at_call 14; refine (bits_any _ _ _ (by assumption) (by decide) (by decide) (by decide) _).mono ?_; rintro _ _ ⟨rfl, m_, rfl⟩) | (go_at_call 18; refine (f3_any _ (by assumption) _).mono ?_; rintro _ _ ⟨rfl, m_, rfl⟩) | (go_at_call 22; refine (rs2_any _ (by assumption) _).mono ?_; rintro _ _ ⟨rfl, m_, rfl⟩) | (go_at_call 39; refine (rounded_ag _ (by assumption) _ _ _ _ _ _ _ _ _ _ _ _ _).mono ?_; rintro _ w39 ⟨y, hy, rfl, hq⟩; have hgn : GN w w39 := GN.trans gnt hq; have hz := hp_gn hq (g := w.heap.size + 1) (o := .cells #[.int .i64 0, .int .i64 0, .int .i64 0, .int .i64 0, .int .i64 0, .int .i64 0, .int .i64 0, .int .i64 0, .int .i64 0, .bool false, .bool false, .bool false] 25) hpt; obtain ⟨⟨p0, q0⟩, ⟨p1, q1⟩, ⟨p2, q2⟩, ⟨p3, q3⟩, ⟨p4, q4⟩, ⟨p5, q5⟩, ⟨p6, q6⟩, ⟨p7, q7⟩, ⟨p8, q8⟩, ⟨p9, q9⟩, ⟨p10, q10⟩, ⟨p11, q11⟩⟩ := c12 hz; clear hq) | (go_at_call 57; refine Calls.mono (three_any _ _ (f : Int) ?_ ?_ ?_ ?_ _ (w.heap.size + 1 + 1) w.heap.size 0 rd r1 r2 0 0 0 sz 0 false false false ?_ ?_ ?_) ?_; (· omega); (· omega); (· decide); (· decide); (· exact hpt); (· exact hpt); (· omega); rintro _ w57 ⟨y, hy, rfl, hq⟩; have hgn : GN w w57 := GR.gn hq gnt (Nat.le_refl _); have hz := hp_gr hq (by omega) (g := w.heap.size + 1) (o := .cells #[.int .i64 0, .int .i64 0, .int .i64 0, .int .i64 0, .int .i64 0, .int .i64 0, .int .i64 0, .int .i64 0, .int .i64 0, .bool false, .bool false, .bool false] 25) hpt; obtain ⟨⟨p0, q0⟩, ⟨p1, q1⟩, ⟨p2, q2⟩, ⟨p3, q3⟩, ⟨p4, q4⟩, ⟨p5, q5⟩, ⟨p6, q6⟩, ⟨p7, q7⟩, ⟨p8, q8⟩, ⟨p9, q9⟩, ⟨p10, q10⟩, ⟨p11, q11⟩⟩ := c12 hz; clear hq))
  refine fin25 4 rfl rfl rfl ⟨_, hpt, rfl, ?_, ?_⟩
  · rw [unhide hl, ← unhide hf', unhide hy]; rfl
  · exact gnt
set_option maxRecDepth 100000 in
set_option maxHeartbeats 4000000 in
theorem oper_18 (b : Nat) (hb : b < 4294967296) (f : Nat) (sz : Int) (hf : fd b 12 3 = f) (hh : fd b 27 5 = 26) (hs : fd b 20 5 = 2) (rd r1 r2 : Nat) (w : World) : Calls Try.prog 40 #[.int .u32 b, .agg #[.int .i64 0, .int .i64 rd, .int .i64 r1, .int .i64 r2, .int .i64 0, .int .i64 0, .int .i64 0, .int .i64 sz, .int .i64 0, .bool false, .bool false, .bool false]] w fun r w' => r = .returned (insV (operK f 26 2 rd r1 r2 sz)) ∧ GN w w' := by
  have hf8 : f < 8 := hf ▸ fd_lt b 12 3
  have hf' := hide hf
  have tt := True.intro
  have hl := hide (show operK f 26 2 rd r1 r2 sz = roundN f (⟨74, rd, r1, 0, 0, 0, 0, sz, 0, false, false, false⟩ : Ins) from by simp [operK, opX])
  go_enter Try.func40, Try.ntmps40
  go_upto_region 26 with (first | (go_at_call 14; refine (bits_any _ _ _ (by assumption) (by decide) (by decide) (by decide) _).mono ?_; rintro _ _ ⟨rfl, m_, rfl⟩) | (go_at_call 18; refine (f3_any _ (by assumption) _).mono ?_; rintro _ _ ⟨rfl, m_, rfl⟩) | (go_at_call 22; refine (rs2_any _ (by assumption) _).mono ?_; rintro _ _ ⟨rfl, m_, rfl⟩) | (go_at_call 39; refine (rounded_ag _ (by assumption) _ _ _ _ _ _ _ _ _ _ _ _ _).mono ?_; rintro _ w39 ⟨y, hy, rfl, hq⟩; have hgn : GN w w39 := GN.trans gnt hq; have hz := hp_gn hq (g := w.heap.size + 1) (o := .cells #[.int .i64 0, .int .i64 0, .int .i64 0, .int .i64 0, .int .i64 0, .int .i64 0, .int .i64 0, .int .i64 0, .int .i64 0, .bool false, .bool false, .bool false] 25) hpt; obtain ⟨⟨p0, q0⟩, ⟨p1, q1⟩, ⟨p2, q2⟩, ⟨p3, q3⟩, ⟨p4, q4⟩, ⟨p5, q5⟩, ⟨p6, q6⟩, ⟨p7, q7⟩, ⟨p8, q8⟩, ⟨p9, q9⟩, ⟨p10, q10⟩, ⟨p11, q11⟩⟩ := c12 hz; clear hq) | (go_at_call 57; refine Calls.mono (three_any _ _ (f : Int) ?_ ?_ ?_ ?_ _ (w.heap.size + 1 + 1) w.heap.size 0 rd r1 r2 0 0 0 sz 0 false false false ?_ ?_ ?_) ?_; (· omega); (· omega); (· decide); (· decide); (· exact hpt); (· exact hpt); (· omega); rintro _ w57 ⟨y, hy, rfl, hq⟩; have hgn : GN w w57 := GR.gn hq gnt (Nat.le_refl _); have hz := hp_gr hq (by omega) (g := w.heap.size + 1) (o := .cells #[.int .i64 0, .int .i64 0, .int .i64 0, .int .i64 0, .int .i64 0, .int .i64 0, .int .i64 0, .int .i64 0, .int .i64 0, .bool false, .bool false, .bool false] 25) hpt; obtain ⟨⟨p0, q0⟩, ⟨p1, q1⟩, ⟨p2, q2⟩, ⟨p3, q3⟩, ⟨p4, q4⟩, ⟨p5, q5⟩, ⟨p6, q6⟩, ⟨p7, q7⟩, ⟨p8, q8⟩, ⟨p9, q9⟩, ⟨p10, q10⟩, ⟨p11, q11⟩⟩ := c12 hz; clear hq))
  refine cutx (w := w) (z := #[.int .i64 0, .int .i64 0, .int .i64 0, .int .i64 0, .int .i64 0, .int .i64 0, .int .i64 0, .int .i64 0, .int .i64 0, .bool false, .bool false, .bool false]) (x := #[.int .i64 73, .int .i64 (rd : Int), .int .i64 (r1 : Int), .int .i64 0, .int .i64 0, .int .i64 0, .int .i64 0, .int .i64 sz, .int .i64 0, .bool false, .bool false, .bool false]) ?_ ?_ ?_ fun W hgW hx hz0 => ?_
  · exact gnt
  · (repeat (first | with_reducible assumption | with_reducible apply hp_row12 | (with_reducible refine hp_last ?_; · simp) | (with_reducible refine hp_set ?_ ?_; · first | assumption | (simp; done)) | with_reducible refine hp_drewN ?_ | with_reducible refine hp_alloc ?_)); exact heap_set' (heap_set' (hp_drewN (hp_alloc (hp_last rfl))) 3 _) 0 _
  · exact hpt
  obtain ⟨⟨p0, q0⟩, ⟨p1, q1⟩, ⟨p2, q2⟩, ⟨p3, q3⟩, ⟨p4, q4⟩, ⟨p5, q5⟩, ⟨p6, q6⟩, ⟨p7, q7⟩, ⟨p8, q8⟩, ⟨p9, q9⟩, ⟨p10, q10⟩, ⟨p11, q11⟩⟩ := c12 hx
  have W1 := lt_of_heap' hx
  have W2 := lt_of_heap' hz0
  go_wp2_with (first | (go_at_call 14; refine (bits_any _ _ _ (by assumption) (by decide) (by decide) (by decide) _).mono ?_; rintro _ _ ⟨rfl, m_, rfl⟩) | (go_at_call 18; refine (f3_any _ (by assumption) _).mono ?_; rintro _ _ ⟨rfl, m_, rfl⟩) | (go_at_call 22; refine (rs2_any _ (by assumption) _).mono ?_; rintro _ _ ⟨rfl, m_, rfl⟩) | (go_at_call 39; refine (rounded_ag _ (by assumption) _ _ _ _ _ _ _ _ _ _ _ _ _).mono ?_; rintro _ w39 ⟨y, hy, rfl, hq⟩; have hgn : GN w w39 := GN.trans gnt hq; have hz := hp_gn hq (g := w.heap.size + 1) (o := .cells #[.int .i64 0, .int .i64 0, .int .i64 0, .int .i64 0, .int .i64 0, .int .i64 0, .int .i64 0, .int .i64 0, .int .i64 0, .bool false, .bool false, .bool false] 25) hpt; obtain ⟨⟨p0, q0⟩, ⟨p1, q1⟩, ⟨p2, q2⟩, ⟨p3, q3⟩, ⟨p4, q4⟩, ⟨p5, q5⟩, ⟨p6, q6⟩, ⟨p7, q7⟩, ⟨p8, q8⟩, ⟨p9, q9⟩, ⟨p10, q10⟩, ⟨p11, q11⟩⟩ := c12 hz; clear hq) | (go_at_call 57; refine Calls.mono (three_any _ _ (f : Int) ?_ ?_ ?_ ?_ _ (w.heap.size + 1 + 1) w.heap.size 0 rd r1 r2 0 0 0 sz 0 false false false ?_ ?_ ?_) ?_; (· omega); (· omega); (· decide); (· decide); (· exact hpt); (· exact hpt); (· omega); rintro _ w57 ⟨y, hy, rfl, hq⟩; have hgn : GN w w57 := GR.gn hq gnt (Nat.le_refl _); have hz := hp_gr hq (by omega) (g := w.heap.size + 1) (o := .cells #[.int .i64 0, .int .i64 0, .int .i64 0, .int .i64 0, .int .i64 0, .int .i64 0, .int .i64 0, .int .i64 0, .int .i64 0, .bool false, .bool false, .bool false] 25) hpt; obtain ⟨⟨p0, q0⟩, ⟨p1, q1⟩, ⟨p2, q2⟩, ⟨p3, q3⟩, ⟨p4, q4⟩, ⟨p5, q5⟩, ⟨p6, q6⟩, ⟨p7, q7⟩, ⟨p8, q8⟩, ⟨p9, q9⟩, ⟨p10, q10⟩, ⟨p11, q11⟩⟩ := c12 hz; clear hq))
  refine fin25 4 rfl rfl rfl ⟨_, hpt, rfl, ?_, ?_⟩
  · rw [unhide hl, ← unhide hf', unhide hy]; rfl
  · exact gnt
set_option maxRecDepth 100000 in
set_option maxHeartbeats 4000000 in
theorem oper_23 (b : Nat) (hb : b < 4294967296) (f : Nat) (sz : Int) (hf : fd b 12 3 = f) (hh : fd b 27 5 = 28) (hs : fd b 20 5 = 0) (f0 : f ≠ 0) (f1 : f ≠ 1) (rd r1 r2 : Nat) (w : World) : Calls Try.prog 40 #[.int .u32 b, .agg #[.int .i64 0, .int .i64 rd, .int .i64 r1, .int .i64 r2, .int .i64 0, .int .i64 0, .int .i64 0, .int .i64 sz, .int .i64 0, .bool false, .bool false, .bool false]] w fun r w' => r = .returned (insV (operK f 28 0 rd r1 r2 sz)) ∧ GN w w' := by
  have hf8 : f < 8 := hf ▸ fd_lt b 12 3
  have hf' := hide hf
  have n0 := ne_b (show ((f : Nat) : Int) ≠ 0 by omega)
  have n1 := ne_b (show ((f : Nat) : Int) ≠ 1 by omega)
  have hl := hide (show operK f 28 0 rd r1 r2 sz = zero from by simp [operK, f0, f1])
  go_enter Try.func40, Try.ntmps40
  go_wp2_with (first | (go_at_call 14; refine (bits_any _ _ _ (by assumption) (by decide) (by decide) (by decide) _).mono ?_; rintro _ _ ⟨rfl, m_, rfl⟩) | (go_at_call 18; refine (f3_any _ (by assumption) _).mono ?_; rintro _ _ ⟨rfl, m_, rfl⟩) | (go_at_call 22; refine (rs2_any _ (by assumption) _).mono ?_; rintro _ _ ⟨rfl, m_, rfl⟩) | (go_at_call 39; refine (rounded_ag _ (by assumption) _ _ _ _ _ _ _ _ _ _ _ _ _).mono ?_; rintro _ w39 ⟨y, hy, rfl, hq⟩; have hgn : GN w w39 := GN.trans gnt hq; have hz := hp_gn hq (g := w.heap.size + 1) (o := .cells #[.int .i64 0, .int .i64 0, .int .i64 0, .int .i64 0, .int .i64 0, .int .i64 0, .int .i64 0, .int .i64 0, .int .i64 0, .bool false, .bool false, .bool false] 25) hpt; obtain ⟨⟨p0, q0⟩, ⟨p1, q1⟩, ⟨p2, q2⟩, ⟨p3, q3⟩, ⟨p4, q4⟩, ⟨p5, q5⟩, ⟨p6, q6⟩, ⟨p7, q7⟩, ⟨p8, q8⟩, ⟨p9, q9⟩, ⟨p10, q10⟩, ⟨p11, q11⟩⟩ := c12 hz; clear hq) | (go_at_call 57; refine Calls.mono (three_any _ _ (f : Int) ?_ ?_ ?_ ?_ _ (w.heap.size + 1 + 1) w.heap.size 0 rd r1 r2 0 0 0 sz 0 false false false ?_ ?_ ?_) ?_; (· omega); (· omega); (· decide); (· decide); (· exact hpt); (· exact hpt); (· omega); rintro _ w57 ⟨y, hy, rfl, hq⟩; have hgn : GN w w57 := GR.gn hq gnt (Nat.le_refl _); have hz := hp_gr hq (by omega) (g := w.heap.size + 1) (o := .cells #[.int .i64 0, .int .i64 0, .int .i64 0, .int .i64 0, .int .i64 0, .int .i64 0, .int .i64 0, .int .i64 0, .int .i64 0, .bool false, .bool false, .bool false] 25) hpt; obtain ⟨⟨p0, q0⟩, ⟨p1, q1⟩, ⟨p2, q2⟩, ⟨p3, q3⟩, ⟨p4, q4⟩, ⟨p5, q5⟩, ⟨p6, q6⟩, ⟨p7, q7⟩, ⟨p8, q8⟩, ⟨p9, q9⟩, ⟨p10, q10⟩, ⟨p11, q11⟩⟩ := c12 hz; clear hq))
  refine fin25 4 rfl rfl rfl ⟨_, hpt, rfl, ?_, ?_⟩
  · rw [unhide hl]; rfl
  · exact gnt
set_option maxRecDepth 100000 in
set_option maxHeartbeats 4000000 in
theorem oper_28 (b : Nat) (hb : b < 4294967296) (h s f : Nat) (sz : Int) (hf : fd b 12 3 = f) (hh : fd b 27 5 = h) (hs : fd b 20 5 = s) (h4 : ¬ h < 4) (h4_ : h ≠ 4) (h5_ : h ≠ 5) (h20_ : h ≠ 20) (h11_ : h ≠ 11) (h8_ : h ≠ 8) (h24_ : h ≠ 24) (h26_ : h ≠ 26) (h28_ : h ≠ 28) (h30_ : h ≠ 30) (rd r1 r2 : Nat) (w : World) : Calls Try.prog 40 #[.int .u32 b, .agg #[.int .i64 0, .int .i64 rd, .int .i64 r1, .int .i64 r2, .int .i64 0, .int .i64 0, .int .i64 0, .int .i64 sz, .int .i64 0, .bool false, .bool false, .bool false]] w fun r w' => r = .returned (insV (operK f h s rd r1 r2 sz)) ∧ GN w w' := by
  have hf8 : f < 8 := hf ▸ fd_lt b 12 3
  have hf' := hide hf
  have z4 : ¬ (h : Int) < 4 := by omega
  have n4 := ne_b (show ((h : Nat) : Int) ≠ 4 by omega)
  have n5 := ne_b (show ((h : Nat) : Int) ≠ 5 by omega)
  have n20 := ne_b (show ((h : Nat) : Int) ≠ 20 by omega)
  have n11 := ne_b (show ((h : Nat) : Int) ≠ 11 by omega)
  have n8 := ne_b (show ((h : Nat) : Int) ≠ 8 by omega)
  have n24 := ne_b (show ((h : Nat) : Int) ≠ 24 by omega)
  have n26 := ne_b (show ((h : Nat) : Int) ≠ 26 by omega)
  have n28 := ne_b (show ((h : Nat) : Int) ≠ 28 by omega)
  have n30 := ne_b (show ((h : Nat) : Int) ≠ 30 by omega)
  have hl := hide (show operK f h s rd r1 r2 sz = zero from by simp [operK, h4, h4_, h5_, h20_, h11_, h8_, h24_, h26_, h28_, h30_])
  go_enter Try.func40, Try.ntmps40
  go_wp2_with (first | (go_at_call 14; refine (bits_any _ _ _ (by assumption) (by decide) (by decide) (by decide) _).mono ?_; rintro _ _ ⟨rfl, m_, rfl⟩) | (go_at_call 18; refine (f3_any _ (by assumption) _).mono ?_; rintro _ _ ⟨rfl, m_, rfl⟩) | (go_at_call 22; refine (rs2_any _ (by assumption) _).mono ?_; rintro _ _ ⟨rfl, m_, rfl⟩) | (go_at_call 39; refine (rounded_ag _ (by assumption) _ _ _ _ _ _ _ _ _ _ _ _ _).mono ?_; rintro _ w39 ⟨y, hy, rfl, hq⟩; have hgn : GN w w39 := GN.trans gnt hq; have hz := hp_gn hq (g := w.heap.size + 1) (o := .cells #[.int .i64 0, .int .i64 0, .int .i64 0, .int .i64 0, .int .i64 0, .int .i64 0, .int .i64 0, .int .i64 0, .int .i64 0, .bool false, .bool false, .bool false] 25) hpt; obtain ⟨⟨p0, q0⟩, ⟨p1, q1⟩, ⟨p2, q2⟩, ⟨p3, q3⟩, ⟨p4, q4⟩, ⟨p5, q5⟩, ⟨p6, q6⟩, ⟨p7, q7⟩, ⟨p8, q8⟩, ⟨p9, q9⟩, ⟨p10, q10⟩, ⟨p11, q11⟩⟩ := c12 hz; clear hq) | (go_at_call 57; refine Calls.mono (three_any _ _ (f : Int) ?_ ?_ ?_ ?_ _ (w.heap.size + 1 + 1) w.heap.size 0 rd r1 r2 0 0 0 sz 0 false false false ?_ ?_ ?_) ?_; (· omega); (· omega); (· decide); (· decide); (· exact hpt); (· exact hpt); (· omega); rintro _ w57 ⟨y, hy, rfl, hq⟩; have hgn : GN w w57 := GR.gn hq gnt (Nat.le_refl _); have hz := hp_gr hq (by omega) (g := w.heap.size + 1) (o := .cells #[.int .i64 0, .int .i64 0, .int .i64 0, .int .i64 0, .int .i64 0, .int .i64 0, .int .i64 0, .int .i64 0, .int .i64 0, .bool false, .bool false, .bool false] 25) hpt; obtain ⟨⟨p0, q0⟩, ⟨p1, q1⟩, ⟨p2, q2⟩, ⟨p3, q3⟩, ⟨p4, q4⟩, ⟨p5, q5⟩, ⟨p6, q6⟩, ⟨p7, q7⟩, ⟨p8, q8⟩, ⟨p9, q9⟩, ⟨p10, q10⟩, ⟨p11, q11⟩⟩ := c12 hz; clear hq))
  refine fin25 4 rfl rfl rfl ⟨_, hpt, rfl, ?_, ?_⟩
  · rw [unhide hl]; rfl
  · exact gnt
end Go.Proofs.Ytopbdiekfhikmaa
namespace Go.Proofs.Ytopbdiekfhikmaa
open Go.RowKit
set_option maxRecDepth 100000 in
set_option maxHeartbeats 4000000 in
theorem oper_4 (b : Nat) (hb : b < 4294967296) (s f : Nat) (sz : Int) (hf : fd b 12 3 = f) (hh : fd b 27 5 = 20) (hs : fd b 20 5 = s) (f2 : ¬ 2 < f) (rd r1 r2 : Nat) (w : World) : Calls Try.prog 40 #[.int .u32 b, .agg #[.int .i64 0, .int .i64 rd, .int .i64 r1, .int .i64 r2, .int .i64 0, .int .i64 0, .int .i64 0, .int .i64 sz, .int .i64 0, .bool false, .bool false, .bool false]] w fun r w' => r = .returned (insV (operK f 20 s rd r1 r2 sz)) ∧ GN w w' := by
  have hf8 : f < 8 := hf ▸ fd_lt b 12 3
  have hf' := hide hf
  have z2 : ¬ (2 : Int) < f := by omega
  have z3 : (f : Int) ≤ 2 := by omega
  have hl := hide (show operK f 20 s rd r1 r2 sz = ⟨(71 : Int) - f, rd, r1, r2, 0, 0, 0, sz, 0, false, false, false⟩ from by simp [operK, opX, f2]; omega)
  go_enter Try.func40, Try.ntmps40
  go_wp2_with (first | (go_at_call 14; refine (bits_any _ _ _ (by assumption) (by decide) (by decide) (by decide) _).mono ?_; rintro _ _ ⟨rfl, m_, rfl⟩) | (go_at_call 18; refine (f3_any _ (by assumption) _).mono ?_; rintro _ _ ⟨rfl, m_, rfl⟩) | (go_at_call 22; refine (rs2_any _ (by assumption) _).mono ?_; rintro _ _ ⟨rfl, m_, rfl⟩) | (go_at_call 39; refine (rounded_ag _ (by assumption) _ _ _ _ _ _ _ _ _ _ _ _ _).mono ?_; rintro _ w39 ⟨y, hy, rfl, hq⟩; have hgn : GN w w39 := GN.trans gnt hq; have hz := hp_gn hq (g := w.heap.size + 1) (o := .cells #[.int .i64 0, .int .i64 0, .int .i64 0, .int .i64 0, .int .i64 0, .int .i64 0, .int .i64 0, .int .i64 0, .int .i64 0, .bool false, .bool false, .bool false] 25) hpt; obtain ⟨⟨p0, q0⟩, ⟨p1, q1⟩, ⟨p2, q2⟩, ⟨p3, q3⟩, ⟨p4, q4⟩, ⟨p5, q5⟩, ⟨p6, q6⟩, ⟨p7, q7⟩, ⟨p8, q8⟩, ⟨p9, q9⟩, ⟨p10, q10⟩, ⟨p11, q11⟩⟩ := c12 hz; clear hq) | (go_at_call 57; refine Calls.mono (three_any _ _ (f : Int) ?_ ?_ ?_ ?_ _ (w.heap.size + 1 + 1) w.heap.size 0 rd r1 r2 0 0 0 sz 0 false false false ?_ ?_ ?_) ?_; (· omega); (· omega); (· decide); (· decide); (· exact hpt); (· exact hpt); (· omega); rintro _ w57 ⟨y, hy, rfl, hq⟩; have hgn : GN w w57 := GR.gn hq gnt (Nat.le_refl _); have hz := hp_gr hq (by omega) (g := w.heap.size + 1) (o := .cells #[.int .i64 0, .int .i64 0, .int .i64 0, .int .i64 0, .int .i64 0, .int .i64 0, .int .i64 0, .int .i64 0, .int .i64 0, .bool false, .bool false, .bool false] 25) hpt; obtain ⟨⟨p0, q0⟩, ⟨p1, q1⟩, ⟨p2, q2⟩, ⟨p3, q3⟩, ⟨p4, q4⟩, ⟨p5, q5⟩, ⟨p6, q6⟩, ⟨p7, q7⟩, ⟨p8, q8⟩, ⟨p9, q9⟩, ⟨p10, q10⟩, ⟨p11, q11⟩⟩ := c12 hz; clear hq))
  refine fin25 4 rfl rfl rfl ⟨_, hpt, rfl, ?_, ?_⟩
  · rw [unhide hl]; rfl
  · exact gnt
set_option maxRecDepth 100000 in
set_option maxHeartbeats 4000000 in
theorem oper_9 (b : Nat) (hb : b < 4294967296) (f : Nat) (hf : fd b 12 3 = f) (hh : fd b 27 5 = 8) (hs : fd b 20 5 = 0) (rd r1 r2 : Nat) (w : World) : Calls Try.prog 40 #[.int .u32 b, .agg #[.int .i64 0, .int .i64 rd, .int .i64 r1, .int .i64 r2, .int .i64 0, .int .i64 0, .int .i64 0, .int .i64 8, .int .i64 0, .bool false, .bool false, .bool false]] w fun r w' => r = .returned (insV (operK f 8 0 rd r1 r2 8)) ∧ GN w w' := by
  have hf8 : f < 8 := hf ▸ fd_lt b 12 3
  have hf' := hide hf
  have tt := True.intro
  have hl := hide (show operK f 8 0 rd r1 r2 8 = roundN f (⟨75, rd, r1, 0, 0, 0, 0, 8, 0, false, false, false⟩ : Ins) from by simp [operK, opX])
  go_enter Try.func40, Try.ntmps40
  go_wp2_with (first | (go_at_call 14; refine (bits_any _ _ _ (by assumption) (by decide) (by decide) (by decide) _).mono ?_; rintro _ _ ⟨rfl, m_, rfl⟩) | (go_at_call 18; refine (f3_any _ (by assumption) _).mono ?_; rintro _ _ ⟨rfl, m_, rfl⟩) | (go_at_call 22; refine (rs2_any _ (by assumption) _).mono ?_; rintro _ _ ⟨rfl, m_, rfl⟩) | (go_at_call 39; refine (rounded_ag _ (by assumption) _ _ _ _ _ _ _ _ _ _ _ _ _).mono ?_; rintro _ w39 ⟨y, hy, rfl, hq⟩; have hgn : GN w w39 := GN.trans gnt hq; have hz := hp_gn hq (g := w.heap.size + 1) (o := .cells #[.int .i64 0, .int .i64 0, .int .i64 0, .int .i64 0, .int .i64 0, .int .i64 0, .int .i64 0, .int .i64 0, .int .i64 0, .bool false, .bool false, .bool false] 25) hpt; obtain ⟨⟨p0, q0⟩, ⟨p1, q1⟩, ⟨p2, q2⟩, ⟨p3, q3⟩, ⟨p4, q4⟩, ⟨p5, q5⟩, ⟨p6, q6⟩, ⟨p7, q7⟩, ⟨p8, q8⟩, ⟨p9, q9⟩, ⟨p10, q10⟩, ⟨p11, q11⟩⟩ := c12 hz; clear hq) | (go_at_call 57; refine Calls.mono (three_any _ _ (f : Int) ?_ ?_ ?_ ?_ _ (w.heap.size + 1 + 1) w.heap.size 0 rd r1 r2 0 0 0 sz 0 false false false ?_ ?_ ?_) ?_; (· omega); (· omega); (· decide); (· decide); (· exact hpt); (· exact hpt); (· omega); rintro _ w57 ⟨y, hy, rfl, hq⟩; have hgn : GN w w57 := GR.gn hq gnt (Nat.le_refl _); have hz := hp_gr hq (by omega) (g := w.heap.size + 1) (o := .cells #[.int .i64 0, .int .i64 0, .int .i64 0, .int .i64 0, .int .i64 0, .int .i64 0, .int .i64 0, .int .i64 0, .int .i64 0, .bool false, .bool false, .bool false] 25) hpt; obtain ⟨⟨p0, q0⟩, ⟨p1, q1⟩, ⟨p2, q2⟩, ⟨p3, q3⟩, ⟨p4, q4⟩, ⟨p5, q5⟩, ⟨p6, q6⟩, ⟨p7, q7⟩, ⟨p8, q8⟩, ⟨p9, q9⟩, ⟨p10, q10⟩, ⟨p11, q11⟩⟩ := c12 hz; clear hq))
  refine fin25 4 rfl rfl rfl ⟨_, hpt, rfl, ?_, ?_⟩
  · rw [unhide hl, ← unhide hf', unhide hy]; rfl
  · exact gnt
set_option maxRecDepth 100000 in
set_option maxHeartbeats 4000000 in
theorem oper_14 (b : Nat) (hb : b < 4294967296) (f : Nat) (sz : Int) (hf : fd b 12 3 = f) (hh : fd b 27 5 = 24) (hs : fd b 20 5 = 3) (rd r1 r2 : Nat) (w : World) : Calls Try.prog 40 #[.int .u32 b, .agg #[.int .i64 0, .int .i64 rd, .int .i64 r1, .int .i64 r2, .int .i64 0, .int .i64 0, .int .i64 0, .int .i64 sz, .int .i64 0, .bool false, .bool false, .bool false]] w fun r w' => r = .returned (insV (operK f 24 3 rd r1 r2 sz)) ∧ GN w w' := by
  have hf8 : f < 8 := hf ▸ fd_lt b 12 3
  have hf' := hide hf
  have tt := True.intro
  have hl := hide (show operK f 24 3 rd r1 r2 sz = roundN f (⟨73, rd, r1, 0, 0, 0, 0, sz, 0, false, true, false⟩ : Ins) from by simp [operK, opX])
  go_enter Try.func40, Try.ntmps40
  go_wp2_with (first | (go_at_call 14; refine (bits_any _ _ _ (by assumption) (by decide) (by decide) (by decide) _).mono ?_; rintro _ _ ⟨rfl, m_, rfl⟩) | (go_at_call 18; refine (f3_any _ (by assumption) _).mono ?_; rintro _ _ ⟨rfl, m_, rfl⟩) | (go_at_call 22; refine (rs2_any _ (by assumption) _).mono ?_; rintro _ _ ⟨rfl, m_, rfl⟩) | (go_at_call 39; refine (rounded_ag _ (by assumption) _ _ _ _ _ _ _ _ _ _ _ _ _).mono ?_; rintro _ w39 ⟨y, hy, rfl, hq⟩; have hgn : GN w w39 := GN.trans gnt hq; have hz := hp_gn hq (g := w.heap.size + 1) (o := .cells #[.int .i64 0, .int .i64 0, .int .i64 0, .int .i64 0, .int .i64 0, .int .i64 0, .int .i64 0, .int .i64 0, .int .i64 0, .bool false, .bool false, .bool false] 25) hpt; obtain ⟨⟨p0, q0⟩, ⟨p1, q1⟩, ⟨p2, q2⟩, ⟨p3, q3⟩, ⟨p4, q4⟩, ⟨p5, q5⟩, ⟨p6, q6⟩, ⟨p7, q7⟩, ⟨p8, q8⟩, ⟨p9, q9⟩, ⟨p10, q10⟩, ⟨p11, q11⟩⟩ := c12 hz; clear hq) | (go_at_call 57; refine Calls.mono (three_any _ _ (f : Int) ?_ ?_ ?_ ?_ _ (w.heap.size + 1 + 1) w.heap.size 0 rd r1 r2 0 0 0 sz 0 false false false ?_ ?_ ?_) ?_; (· omega); (· omega); (· decide); (· decide); (· exact hpt); (· exact hpt); (· omega); rintro _ w57 ⟨y, hy, rfl, hq⟩; have hgn : GN w w57 := GR.gn hq gnt (Nat.le_refl _); have hz := hp_gr hq (by omega) (g := w.heap.size + 1) (o := .cells #[.int .i64 0, .int .i64 0, .int .i64 0, .int .i64 0, .int .i64 0, .int .i64 0, .int .i64 0, .int .i64 0, .int .i64 0, .bool false, .bool false, .bool false] 25) hpt; obtain ⟨⟨p0, q0⟩, ⟨p1, q1⟩, ⟨p2, q2⟩, ⟨p3, q3⟩, ⟨p4, q4⟩, ⟨p5, q5⟩, ⟨p6, q6⟩, ⟨p7, q7⟩, ⟨p8, q8⟩, ⟨p9, q9⟩, ⟨p10, q10⟩, ⟨p11, q11⟩⟩ := c12 hz; clear hq))
  refine fin25 4 rfl rfl rfl ⟨_, hpt, rfl, ?_, ?_⟩
  · rw [unhide hl, ← unhide hf', unhide hy]; rfl
  · exact gnt
set_option maxRecDepth 100000 in
set_option maxHeartbeats 4000000 in
theorem oper_19 (b : Nat) (hb : b < 4294967296) (f : Nat) (sz : Int) (hf : fd b 12 3 = f) (hh : fd b 27 5 = 26) (hs : fd b 20 5 = 3) (rd r1 r2 : Nat) (w : World) : Calls Try.prog 40 #[.int .u32 b, .agg #[.int .i64 0, .int .i64 rd, .int .i64 r1, .int .i64 r2, .int .i64 0, .int .i64 0, .int .i64 0, .int .i64 sz, .int .i64 0, .bool false, .bool false, .bool false]] w fun r w' => r = .returned (insV (operK f 26 3 rd r1 r2 sz)) ∧ GN w w' := by
  have hf8 : f < 8 := hf ▸ fd_lt b 12 3
  have hf' := hide hf
  have tt := True.intro
  have hl := hide (show operK f 26 3 rd r1 r2 sz = roundN f (⟨74, rd, r1, 0, 0, 0, 0, sz, 0, false, true, false⟩ : Ins) from by simp [operK, opX])
  go_enter Try.func40, Try.ntmps40
  go_upto_region 26 with (first | (go_at_call 14; refine (bits_any _ _ _ (by assumption) (by decide) (by decide) (by decide) _).mono ?_; rintro _ _ ⟨rfl, m_, rfl⟩) | (go_at_call 18; refine (f3_any _ (by assumption) _).mono ?_; rintro _ _ ⟨rfl, m_, rfl⟩) | (go_at_call 22; refine (rs2_any _ (by assumption) _).mono ?_; rintro _ _ ⟨rfl, m_, rfl⟩) | (go_at_call 39; refine (rounded_ag _ (by assumption) _ _ _ _ _ _ _ _ _ _ _ _ _).mono ?_; rintro _ w39 ⟨y, hy, rfl, hq⟩; have hgn : GN w w39 := GN.trans gnt hq; have hz := hp_gn hq (g := w.heap.size + 1) (o := .cells #[.int .i64 0, .int .i64 0, .int .i64 0, .int .i64 0, .int .i64 0, .int .i64 0, .int .i64 0, .int .i64 0, .int .i64 0, .bool false, .bool false, .bool false] 25) hpt; obtain ⟨⟨p0, q0⟩, ⟨p1, q1⟩, ⟨p2, q2⟩, ⟨p3, q3⟩, ⟨p4, q4⟩, ⟨p5, q5⟩, ⟨p6, q6⟩, ⟨p7, q7⟩, ⟨p8, q8⟩, ⟨p9, q9⟩, ⟨p10, q10⟩, ⟨p11, q11⟩⟩ := c12 hz; clear hq) | (go_at_call 57; refine Calls.mono (three_any _ _ (f : Int) ?_ ?_ ?_ ?_ _ (w.heap.size + 1 + 1) w.heap.size 0 rd r1 r2 0 0 0 sz 0 false false false ?_ ?_ ?_) ?_; (· omega); (· omega); (· decide); (· decide); (· exact hpt); (· exact hpt); (· omega); rintro _ w57 ⟨y, hy, rfl, hq⟩; have hgn : GN w w57 := GR.gn hq gnt (Nat.le_refl _); have hz := hp_gr hq (by omega) (g := w.heap.size + 1) (o := .cells #[.int .i64 0, .int .i64 0, .int .i64 0, .int .i64 0, .int .i64 0, .int .i64 0, .int .i64 0, .int .i64 0, .int .i64 0, .bool false, .bool false, .bool false] 25) hpt; obtain ⟨⟨p0, q0⟩, ⟨p1, q1⟩, ⟨p2, q2⟩, ⟨p3, q3⟩, ⟨p4, q4⟩, ⟨p5, q5⟩, ⟨p6, q6⟩, ⟨p7, q7⟩, ⟨p8, q8⟩, ⟨p9, q9⟩, ⟨p10, q10⟩, ⟨p11, q11⟩⟩ := c12 hz; clear hq))
  refine cutx (w := w) (z := #[.int .i64 0, .int .i64 0, .int .i64 0, .int .i64 0, .int .i64 0, .int .i64 0, .int .i64 0, .int .i64 0, .int .i64 0, .bool false, .bool false, .bool false]) (x := #[.int .i64 73, .int .i64 (rd : Int), .int .i64 (r1 : Int), .int .i64 0, .int .i64 0, .int .i64 0, .int .i64 0, .int .i64 sz, .int .i64 0, .bool false, .bool false, .bool false]) ?_ ?_ ?_ fun W hgW hx hz0 => ?_
  · exact gnt
  · (repeat (first | with_reducible assumption | with_reducible apply hp_row12 | (with_reducible refine hp_last ?_; · simp) | (with_reducible refine hp_set ?_ ?_; · first | assumption | (simp; done)) | with_reducible refine hp_drewN ?_ | with_reducible refine hp_alloc ?_)); exact heap_set' (heap_set' (hp_drewN (hp_alloc (hp_last rfl))) 3 _) 0 _
  · exact hpt
  obtain ⟨⟨p0, q0⟩, ⟨p1, q1⟩, ⟨p2, q2⟩, ⟨p3, q3⟩, ⟨p4, q4⟩, ⟨p5, q5⟩, ⟨p6, q6⟩, ⟨p7, q7⟩, ⟨p8, q8⟩, ⟨p9, q9⟩, ⟨p10, q10⟩, ⟨p11, q11⟩⟩ := c12 hx
  have W1 := lt_of_heap' hx
  have W2 := lt_of_heap' hz0
  go_wp2_with (first | (go_at_call 14; refine (bits_any _ _ _ (by assumption) (by decide) (by decide) (by decide) _).mono ?_; rintro _ _ ⟨rfl, m_, rfl⟩) | (go_at_call 18; refine (f3_any _ (by assumption) _).mono ?_; rintro _ _ ⟨rfl, m_, rfl⟩) | (go_at_call 22; refine (rs2_any _ (by assumption) _).mono ?_; rintro _ _ ⟨rfl, m_, rfl⟩) | (go_at_call 39; refine (rounded_ag _ (by assumption) _ _ _ _ _ _ _ _ _ _ _ _ _).mono ?_; rintro _ w39 ⟨y, hy, rfl, hq⟩; have hgn : GN w w39 := GN.trans gnt hq; have hz := hp_gn hq (g := w.heap.size + 1) (o := .cells #[.int .i64 0, .int .i64 0, .int .i64 0, .int .i64 0, .int .i64 0, .int .i64 0, .int .i64 0, .int .i64 0, .int .i64 0, .bool false, .bool false, .bool false] 25) hpt; obtain ⟨⟨p0, q0⟩, ⟨p1, q1⟩, ⟨p2, q2⟩, ⟨p3, q3⟩, ⟨p4, q4⟩, ⟨p5, q5⟩, ⟨p6, q6⟩, ⟨p7, q7⟩, ⟨p8, q8⟩, ⟨p9, q9⟩, ⟨p10, q10⟩, ⟨p11, q11⟩⟩ := c12 hz; clear hq) | (go_at_call 57; refine Calls.mono (three_any _ _ (f : Int) ?_ ?_ ?_ ?_ _ (w.heap.size + 1 + 1) w.heap.size 0 rd r1 r2 0 0 0 sz 0 false false false ?_ ?_ ?_) ?_; (· omega); (· omega); (· decide); (· decide); (· exact hpt); (· exact hpt); (· omega); rintro _ w57 ⟨y, hy, rfl, hq⟩; have hgn : GN w w57 := GR.gn hq gnt (Nat.le_refl _); have hz := hp_gr hq (by omega) (g := w.heap.size + 1) (o := .cells #[.int .i64 0, .int .i64 0, .int .i64 0, .int .i64 0, .int .i64 0, .int .i64 0, .int .i64 0, .int .i64 0, .int .i64 0, .bool false, .bool false, .bool false] 25) hpt; obtain ⟨⟨p0, q0⟩, ⟨p1, q1⟩, ⟨p2, q2⟩, ⟨p3, q3⟩, ⟨p4, q4⟩, ⟨p5, q5⟩, ⟨p6, q6⟩, ⟨p7, q7⟩, ⟨p8, q8⟩, ⟨p9, q9⟩, ⟨p10, q10⟩, ⟨p11, q11⟩⟩ := c12 hz; clear hq))
  refine fin25 4 rfl rfl rfl ⟨_, hpt, rfl, ?_, ?_⟩
  · rw [unhide hl, ← unhide hf', unhide hy]; rfl
  · exact gnt
set_option maxRecDepth 100000 in
set_option maxHeartbeats 4000000 in
theorem oper_24 (b : Nat) (hb : b < 4294967296) (s f : Nat) (sz : Int) (hf : fd b 12 3 = f) (hh : fd b 27 5 = 28) (hs : fd b 20 5 = s) (s0 : s ≠ 0) (rd r1 r2 : Nat) (w : World) : Calls Try.prog 40 #[.int .u32 b, .agg #[.int .i64 0, .int .i64 rd, .int .i64 r1, .int .i64 r2, .int .i64 0, .int .i64 0, .int .i64 0, .int .i64 sz, .int .i64 0, .bool false, .bool false, .bool false]] w fun r w' => r = .returned (insV (operK f 28 s rd r1 r2 sz)) ∧ GN w w' := by
  have hf8 : f < 8 := hf ▸ fd_lt b 12 3
  have hf' := hide hf
  have n0 := ne_b (show ((s : Nat) : Int) ≠ 0 by omega)
  have hl := hide (show operK f 28 s rd r1 r2 sz = zero from by simp [operK, s0])
  go_enter Try.func40, Try.ntmps40
  go_wp2_with (first | (go_at_call 14; refine (bits_any _ _ _ (by assumption) (by decide) (by decide) (by decide) _).mono ?_; rintro _ _ ⟨rfl, m_, rfl⟩) | (go_at_call 18; refine (f3_any _ (by assumption) _).mono ?_; rintro _ _ ⟨rfl, m_, rfl⟩) | (go_at_call 22; refine (rs2_any _ (by assumption) _).mono ?_; rintro _ _ ⟨rfl, m_, rfl⟩) | (go_at_call 39; refine (rounded_ag _ (by assumption) _ _ _ _ _ _ _ _ _ _ _ _ _).mono ?_; rintro _ w39 ⟨y, hy, rfl, hq⟩; have hgn : GN w w39 := GN.trans gnt hq; have hz := hp_gn hq (g := w.heap.size + 1) (o := .cells #[.int .i64 0, .int .i64 0, .int .i64 0, .int .i64 0, .int .i64 0, .int .i64 0, .int .i64 0, .int .i64 0, .int .i64 0, .bool false, .bool false, .bool false] 25) hpt; obtain ⟨⟨p0, q0⟩, ⟨p1, q1⟩, ⟨p2, q2⟩, ⟨p3, q3⟩, ⟨p4, q4⟩, ⟨p5, q5⟩, ⟨p6, q6⟩, ⟨p7, q7⟩, ⟨p8, q8⟩, ⟨p9, q9⟩, ⟨p10, q10⟩, ⟨p11, q11⟩⟩ := c12 hz; clear hq) | (go_at_call 57; refine Calls.mono (three_any _ _ (f : Int) ?_ ?_ ?_ ?_ _ (w.heap.size + 1 + 1) w.heap.size 0 rd r1 r2 0 0 0 sz 0 false false false ?_ ?_ ?_) ?_; (· omega); (· omega); (· decide); (· decide); (· exact hpt); (· exact hpt); (· omega); rintro _ w57 ⟨y, hy, rfl, hq⟩; have hgn : GN w w57 := GR.gn hq gnt (Nat.le_refl _); have hz := hp_gr hq (by omega) (g := w.heap.size + 1) (o := .cells #[.int .i64 0, .int .i64 0, .int .i64 0, .int .i64 0, .int .i64 0, .int .i64 0, .int .i64 0, .int .i64 0, .int .i64 0, .bool false, .bool false, .bool false] 25) hpt; obtain ⟨⟨p0, q0⟩, ⟨p1, q1⟩, ⟨p2, q2⟩, ⟨p3, q3⟩, ⟨p4, q4⟩, ⟨p5, q5⟩, ⟨p6, q6⟩, ⟨p7, q7⟩, ⟨p8, q8⟩, ⟨p9, q9⟩, ⟨p10, q10⟩, ⟨p11, q11⟩⟩ := c12 hz; clear hq))
  refine fin25 4 rfl rfl rfl ⟨_, hpt, rfl, ?_, ?_⟩
  · rw [unhide hl]; rfl
  · exact gnt
end Go.Proofs.Ytopbdiekfhikmaa
namespace Go.Proofs.Ytopbdiekfhikmaa
open Go.RowKit
theorem operation_any (b : Nat) (hb : b < 4294967296) (rd r1 r2 : Nat) (sz : Int) (hsz : sz = 4 ∨ sz = 8) (w : World) : Calls Try.prog 40 #[.int .u32 b, .agg #[.int .i64 0, .int .i64 rd, .int .i64 r1, .int .i64 r2, .int .i64 0, .int .i64 0, .int .i64 0, .int .i64 sz, .int .i64 0, .bool false, .bool false, .bool false]] w fun r w' => r = .returned (insV (operK (fd b 12 3) (fd b 27 5) (fd b 20 5) rd r1 r2 sz)) ∧ GN w w' := by
  obtain ⟨f, hf⟩ : ∃ f, fd b 12 3 = f := ⟨_, rfl⟩
  obtain ⟨h, hh⟩ : ∃ g, fd b 27 5 = g := ⟨_, rfl⟩
  obtain ⟨s, hs⟩ : ∃ g, fd b 20 5 = g := ⟨_, rfl⟩
  rw [hf, hh, hs]
  have hc : h < 4 ∨ h = 4 ∨ h = 5 ∨ h = 20 ∨ h = 11 ∨ h = 8 ∨ h = 24 ∨ h = 26 ∨ h = 28 ∨ h = 30 ∨ (¬ h < 4 ∧ h ≠ 4 ∧ h ≠ 5 ∧ h ≠ 20 ∧ h ≠ 11 ∧ h ≠ 8 ∧ h ≠ 24 ∧ h ≠ 26 ∧ h ≠ 28 ∧ h ≠ 30) := by omega
  rcases hc with h4 | rfl | rfl | rfl | rfl | rfl | rfl | rfl | rfl | rfl | ⟨h4, h41, h5, h20, h11, h8, h24, h26, h28, h30⟩
  · exact oper_0 b hb h s f sz hf hh hs h4 rd r1 r2 w
  · exact oper_1 b hb s f sz hf hh hs  rd r1 r2 w
  · exact oper_2 b hb s f sz hf hh hs  rd r1 r2 w
  · by_cases f2 : 2 < f
    · exact oper_3 b hb s f sz hf hh hs f2 rd r1 r2 w
    · exact oper_4 b hb s f sz hf hh hs f2 rd r1 r2 w
  · by_cases s0 : s = 0
    · subst s0; exact oper_5 b hb f sz hf hh hs  rd r1 r2 w
    · exact oper_6 b hb s f sz hf hh hs s0 rd r1 r2 w
  · rcases hsz with rfl | rfl
    · by_cases s0 : s = 1
      · subst s0; exact oper_7 b hb f  hf hh hs  rd r1 r2 w
      · exact oper_8 b hb s f  hf hh hs s0 rd r1 r2 w
    · by_cases s0 : s = 0
      · subst s0; exact oper_9 b hb f  hf hh hs  rd r1 r2 w
      · exact oper_10 b hb s f  hf hh hs s0 rd r1 r2 w
  · have sc : s = 0 ∨ s = 1 ∨ s = 2 ∨ s = 3 ∨ ¬ s < 4 := by omega
    rcases sc with rfl | rfl | rfl | rfl | s4
    · exact oper_11 b hb f sz hf hh hs  rd r1 r2 w
    · exact oper_12 b hb f sz hf hh hs  rd r1 r2 w
    · exact oper_13 b hb f sz hf hh hs  rd r1 r2 w
    · exact oper_14 b hb f sz hf hh hs  rd r1 r2 w
    · exact oper_15 b hb s f sz hf hh hs s4 rd r1 r2 w
  · have sc : s = 0 ∨ s = 1 ∨ s = 2 ∨ s = 3 ∨ ¬ s < 4 := by omega
    rcases sc with rfl | rfl | rfl | rfl | s4
    · exact oper_16 b hb f sz hf hh hs  rd r1 r2 w
    · exact oper_17 b hb f sz hf hh hs  rd r1 r2 w
    · exact oper_18 b hb f sz hf hh hs  rd r1 r2 w
    · exact oper_19 b hb f sz hf hh hs  rd r1 r2 w
    · exact oper_20 b hb s f sz hf hh hs s4 rd r1 r2 w
  · by_cases s0 : s = 0
    · subst s0
      by_cases f0 : f = 0
      · subst f0; exact oper_21 b hb  sz hf hh hs  rd r1 r2 w
      · by_cases f1 : f = 1
        · subst f1; exact oper_22 b hb  sz hf hh hs  rd r1 r2 w
        · exact oper_23 b hb f sz hf hh hs f0 f1 rd r1 r2 w
    · exact oper_24 b hb s f sz hf hh hs s0 rd r1 r2 w
  · by_cases s0 : s = 0
    · subst s0
      by_cases f0 : f = 0
      · subst f0; exact oper_25 b hb  sz hf hh hs  rd r1 r2 w
      · exact oper_26 b hb f sz hf hh hs f0 rd r1 r2 w
    · exact oper_27 b hb s f sz hf hh hs s0 rd r1 r2 w
  · exact oper_28 b hb h s f sz hf hh hs h4 h41 h5 h20 h11 h8 h24 h26 h28 h30 rd r1 r2 w
end Go.Proofs.Ytopbdiekfhikmaa
