/- Layer 3: bits of sums and products. -/
import Derived.Test.YtopbdiekfhikmaaE1
import Derived.Test.YtopbdiekfhikmaaD10
namespace Go.Proofs.Ytopbdiekfhikmaa
open Go.RowKit
def sumsL : List Int := [13, 15, 16, 17, 18, 19, 21, 22]
def prodL : List Int := [23, 24, 25, 26, 27, 28, 29, 30]
def sumOp (ui wd : Bool) : Nat := or32 (if ui then 19 else 51) (wd.toNat * 8 % 4294967296)
def sumB (f h : Nat) (rd r1 r2 i : Int) (ui wd : Bool) : Nat := or32 (or32 (sumOp ui wd) (or32 (f * 4096) (h * 33554432))) (if ui then iN rd r1 i else rN rd r1 r2)
def sumN (k rd r1 r2 i : Int) (ui wd : Bool) : Nat × Bool :=
  if k = 14 then (sumB 0 32 rd r1 r2 i ui wd, true)
  else if k = 20 then (sumB 5 32 rd r1 r2 i ui wd, true)
  else if 0 ≤ placeN sumsL k then (sumB (placeN sumsL k).toNat 0 rd r1 r2 i ui wd, true)
  else if 0 ≤ placeN prodL k then (sumB (placeN prodL k).toNat 1 rd r1 r2 i ui wd, true)
  else (0, false)
theorem pl_cases : ∀ (l : List Int) (k : Int) (i : Nat), plF l k i = -1 ∨ ∃ n : Nat, plF l k i = n ∧ n < i + l.length
  | [], _, _ => .inl rfl
  | v :: r, k, i => by
    unfold plF
    split
    · exact .inr ⟨i, rfl, by simp⟩
    · rcases pl_cases r k (i + 1) with h | ⟨n, h1, h2⟩
      · exact .inl h
      · exact .inr ⟨n, h1, by simp at h2 ⊢; omega⟩
theorem place_cases (l : List Int) (k : Int) : placeN l k = -1 ∨ ∃ n : Nat, placeN l k = n ∧ n < l.length := by
  rcases pl_cases l k 0 with h | ⟨n, h1, h2⟩
  · exact .inl h
  · exact .inr ⟨n, h1, by simpa using h2⟩
theorem cells_of {W : World} {g T : Nat} {l : List Int} {cs : Array Value} (hcs : cs = (l.map fun v => Value.int .i64 v).toArray) (h : W.heap[g]? = some (.cells cs T (0, 0))) : ∀ j v, l[j]? = some v → W.cell? ⟨g, j, none⟩ = some (.int .i64 v) := by
  subst hcs
  intro j v hv
  rw [(cell_blk h j).1]
  simp [hv]
theorem cutS {w W0 : World} {c : Code} {Q : Exit → Act → World → Prop} {a : Act} {g5 g6 : Nat} {x y z : Array Value} (hg : GN w W0) (hx : W0.heap[w.heap.size]? = some (.cells x 25 (0, 0))) (h5 : W0.heap[g5]? = some (.cells y 38 (0, 0))) (h6 : W0.heap[g6]? = some (.cells z 38 (0, 0)))
    (k : ∀ W, GN w W → W.heap[w.heap.size]? = some (.cells x 25 (0, 0)) → W.heap[g5]? = some (.cells y 38 (0, 0)) → W.heap[g6]? = some (.cells z 38 (0, 0)) → Code.wp Try.prog c Q a W) : Code.wp Try.prog c Q a W0 := k W0 hg hx h5 h6
set_option maxRecDepth 100000 in
set_option maxHeartbeats 4000000 in
theorem sum_14f (k rd r1 r2 r3 rm c sz i : Int) (hi : (Lit.int .i64 i).wf = true) (us wd : Bool) (w : World) (k14 : (k == 14) = true) : Calls Try.prog 53 #[.agg #[.int .i64 k, .int .i64 rd, .int .i64 r1, .int .i64 r2, .int .i64 r3, .int .i64 rm, .int .i64 c, .int .i64 sz, .int .i64 i, .bool false, .bool us, .bool wd]] w fun e w' => e = .returned (.tuple #[.int .u32 (sumB 0 32 rd r1 r2 i false wd : Nat), .bool true]) ∧ GN w w' := by
  obtain ⟨z, hz⟩ : ∃ z : Int, z = ((sumB 0 32 rd r1 r2 i false wd : Nat) : Int) := ⟨_, rfl⟩
  rw [← hz]
  simp only [sumB, sumOp, or32_cast, if_false, Bool.false_eq_true, Int.natCast_emod, Int.natCast_mul] at hz
  have Hz := hide hz
  clear hz
  go_enter Try.func53, Try.ntmps53
  go_upto_region 6 with (first | (go_at_call 49; refine (mark_any _ _).mono ?_; rintro _ _ ⟨rfl, m_, rfl⟩) | (go_at_call 35; refine (sums_any _).mono ?_; rintro _ _ ⟨rfl, o_, rfl⟩) | (go_at_call 37; refine (products_any _).mono ?_; rintro _ _ ⟨rfl, o_, rfl⟩))
  refine cutS (w := w) (g5 := w.heap.size + 1 + 1 + 1) (g6 := w.heap.size + 1 + 1 + 1 + 1) (x := #[.int .i64 k, .int .i64 rd, .int .i64 r1, .int .i64 r2, .int .i64 r3, .int .i64 rm, .int .i64 c, .int .i64 sz, .int .i64 i, .bool false, .bool us, .bool wd]) (y := #[.int .i64 13, .int .i64 15, .int .i64 16, .int .i64 17, .int .i64 18, .int .i64 19, .int .i64 21, .int .i64 22]) (z := #[.int .i64 23, .int .i64 24, .int .i64 25, .int .i64 26, .int .i64 27, .int .i64 28, .int .i64 29, .int .i64 30]) ?_ ?_ ?_ ?_ fun W hgW hx h5 h6 => ?_
  · exact gnt
  · exact hpt
  · exact hpt
  · exact hpt
  have W1 := lt_of_heap' hx
  have W2 := lt_of_heap' h5
  have W3 := lt_of_heap' h6
  generalize hg5 : w.heap.size + 1 + 1 + 1 = g5 at *
  generalize hg6 : g5 + 1 = g6 at *
  clear hg5 hg6
  have C5 := hide (cells_of (l := sumsL) rfl h5)
  have C6 := hide (cells_of (l := prodL) rfl h6)
  obtain ⟨⟨p0, q0⟩, ⟨p1, q1⟩, ⟨p2, q2⟩, ⟨p3, q3⟩, ⟨p4, q4⟩, ⟨p5, q5⟩, ⟨p6, q6⟩, ⟨p7, q7⟩, ⟨p8, q8⟩, ⟨p9, q9⟩, ⟨p10, q10⟩, ⟨p11, q11⟩⟩ := c12 hx
  go_quiet ((go_at_call 52; exact Calls.quiet_of (place_any sumsL k g5 8 rfl (by decide) _ (unhide C5))))
  go_wp2_with (first | (go_at_call 47; refine (i_any _ _ _ _ _ _ _ _ _ (by assumption) _ _ _ _).mono ?_; rintro _ w2 ⟨rfl, hq⟩) | (go_at_call 51; refine (r_any _ _ _ _ _ _ _ _ _ (by assumption) _ _ _ _).mono ?_; rintro _ w2 ⟨rfl, hq⟩))
  go_ret2
  exact ⟨by rw [unhide Hz]; rfl, GN.trans (hgW.drewN _) hq⟩
set_option maxRecDepth 100000 in
set_option maxHeartbeats 4000000 in
theorem sum_20f (k rd r1 r2 r3 rm c sz i : Int) (hi : (Lit.int .i64 i).wf = true) (us wd : Bool) (w : World) (k14 : (k == 14) = false) (k20 : (k == 20) = true) : Calls Try.prog 53 #[.agg #[.int .i64 k, .int .i64 rd, .int .i64 r1, .int .i64 r2, .int .i64 r3, .int .i64 rm, .int .i64 c, .int .i64 sz, .int .i64 i, .bool false, .bool us, .bool wd]] w fun e w' => e = .returned (.tuple #[.int .u32 (sumB 5 32 rd r1 r2 i false wd : Nat), .bool true]) ∧ GN w w' := by
  obtain ⟨z, hz⟩ : ∃ z : Int, z = ((sumB 5 32 rd r1 r2 i false wd : Nat) : Int) := ⟨_, rfl⟩
  rw [← hz]
  simp only [sumB, sumOp, or32_cast, if_false, Bool.false_eq_true, Int.natCast_emod, Int.natCast_mul] at hz
  have Hz := hide hz
  clear hz
  go_enter Try.func53, Try.ntmps53
  go_upto_region 6 with (first | (go_at_call 49; refine (mark_any _ _).mono ?_; rintro _ _ ⟨rfl, m_, rfl⟩) | (go_at_call 35; refine (sums_any _).mono ?_; rintro _ _ ⟨rfl, o_, rfl⟩) | (go_at_call 37; refine (products_any _).mono ?_; rintro _ _ ⟨rfl, o_, rfl⟩))
  refine cutS (w := w) (g5 := w.heap.size + 1 + 1 + 1) (g6 := w.heap.size + 1 + 1 + 1 + 1) (x := #[.int .i64 k, .int .i64 rd, .int .i64 r1, .int .i64 r2, .int .i64 r3, .int .i64 rm, .int .i64 c, .int .i64 sz, .int .i64 i, .bool false, .bool us, .bool wd]) (y := #[.int .i64 13, .int .i64 15, .int .i64 16, .int .i64 17, .int .i64 18, .int .i64 19, .int .i64 21, .int .i64 22]) (z := #[.int .i64 23, .int .i64 24, .int .i64 25, .int .i64 26, .int .i64 27, .int .i64 28, .int .i64 29, .int .i64 30]) ?_ ?_ ?_ ?_ fun W hgW hx h5 h6 => ?_
  · exact gnt
  · exact hpt
  · exact hpt
  · exact hpt
  have W1 := lt_of_heap' hx
  have W2 := lt_of_heap' h5
  have W3 := lt_of_heap' h6
  generalize hg5 : w.heap.size + 1 + 1 + 1 = g5 at *
  generalize hg6 : g5 + 1 = g6 at *
  clear hg5 hg6
  have C5 := hide (cells_of (l := sumsL) rfl h5)
  have C6 := hide (cells_of (l := prodL) rfl h6)
  obtain ⟨⟨p0, q0⟩, ⟨p1, q1⟩, ⟨p2, q2⟩, ⟨p3, q3⟩, ⟨p4, q4⟩, ⟨p5, q5⟩, ⟨p6, q6⟩, ⟨p7, q7⟩, ⟨p8, q8⟩, ⟨p9, q9⟩, ⟨p10, q10⟩, ⟨p11, q11⟩⟩ := c12 hx
  go_quiet ((go_at_call 52; exact Calls.quiet_of (place_any sumsL k g5 8 rfl (by decide) _ (unhide C5))))
  go_wp2_with (first | (go_at_call 47; refine (i_any _ _ _ _ _ _ _ _ _ (by assumption) _ _ _ _).mono ?_; rintro _ w2 ⟨rfl, hq⟩) | (go_at_call 51; refine (r_any _ _ _ _ _ _ _ _ _ (by assumption) _ _ _ _).mono ?_; rintro _ w2 ⟨rfl, hq⟩))
  go_ret2
  exact ⟨by rw [unhide Hz]; rfl, GN.trans (hgW.drewN _) hq⟩
set_option maxRecDepth 100000 in
set_option maxHeartbeats 4000000 in
theorem sum_sf (k rd r1 r2 r3 rm c sz i : Int) (hi : (Lit.int .i64 i).wf = true) (us wd : Bool) (w : World) (k14 : (k == 14) = false) (k20 : (k == 20) = false) (f : Nat) (hf : placeN sumsL k = f) (hf8 : f < 8) : Calls Try.prog 53 #[.agg #[.int .i64 k, .int .i64 rd, .int .i64 r1, .int .i64 r2, .int .i64 r3, .int .i64 rm, .int .i64 c, .int .i64 sz, .int .i64 i, .bool false, .bool us, .bool wd]] w fun e w' => e = .returned (.tuple #[.int .u32 (sumB f 0 rd r1 r2 i false wd : Nat), .bool true]) ∧ GN w w' := by
  obtain ⟨z, hz⟩ : ∃ z : Int, z = ((sumB f 0 rd r1 r2 i false wd : Nat) : Int) := ⟨_, rfl⟩
  rw [← hz]
  simp only [sumB, sumOp, or32_cast, if_false, Bool.false_eq_true, Int.natCast_emod, Int.natCast_mul] at hz
  have Hz := hide hz
  clear hz
  go_enter Try.func53, Try.ntmps53
  go_upto_region 6 with (first | (go_at_call 49; refine (mark_any _ _).mono ?_; rintro _ _ ⟨rfl, m_, rfl⟩) | (go_at_call 35; refine (sums_any _).mono ?_; rintro _ _ ⟨rfl, o_, rfl⟩) | (go_at_call 37; refine (products_any _).mono ?_; rintro _ _ ⟨rfl, o_, rfl⟩))
  refine cutS (w := w) (g5 := w.heap.size + 1 + 1 + 1) (g6 := w.heap.size + 1 + 1 + 1 + 1) (x := #[.int .i64 k, .int .i64 rd, .int .i64 r1, .int .i64 r2, .int .i64 r3, .int .i64 rm, .int .i64 c, .int .i64 sz, .int .i64 i, .bool false, .bool us, .bool wd]) (y := #[.int .i64 13, .int .i64 15, .int .i64 16, .int .i64 17, .int .i64 18, .int .i64 19, .int .i64 21, .int .i64 22]) (z := #[.int .i64 23, .int .i64 24, .int .i64 25, .int .i64 26, .int .i64 27, .int .i64 28, .int .i64 29, .int .i64 30]) ?_ ?_ ?_ ?_ fun W hgW hx h5 h6 => ?_
  · exact gnt
  · exact hpt
  · exact hpt
  · exact hpt
  have W1 := lt_of_heap' hx
  have W2 := lt_of_heap' h5
  have W3 := lt_of_heap' h6
  generalize hg5 : w.heap.size + 1 + 1 + 1 = g5 at *
  generalize hg6 : g5 + 1 = g6 at *
  clear hg5 hg6
  have C5 := hide (cells_of (l := sumsL) rfl h5)
  have C6 := hide (cells_of (l := prodL) rfl h6)
  obtain ⟨⟨p0, q0⟩, ⟨p1, q1⟩, ⟨p2, q2⟩, ⟨p3, q3⟩, ⟨p4, q4⟩, ⟨p5, q5⟩, ⟨p6, q6⟩, ⟨p7, q7⟩, ⟨p8, q8⟩, ⟨p9, q9⟩, ⟨p10, q10⟩, ⟨p11, q11⟩⟩ := c12 hx
  go_quiet ((go_at_call 52; exact Calls.quiet_of (place_any sumsL k g5 8 rfl (by decide) _ (unhide C5))))
  go_wp2_with (first | (go_at_call 47; refine (i_any _ _ _ _ _ _ _ _ _ (by assumption) _ _ _ _).mono ?_; rintro _ w2 ⟨rfl, hq⟩) | (go_at_call 51; refine (r_any _ _ _ _ _ _ _ _ _ (by assumption) _ _ _ _).mono ?_; rintro _ w2 ⟨rfl, hq⟩))
  go_ret2
  exact ⟨by rw [unhide Hz]; rfl, GN.trans (hgW.drewN _) hq⟩
set_option maxRecDepth 100000 in
set_option maxHeartbeats 4000000 in
theorem sum_pf (k rd r1 r2 r3 rm c sz i : Int) (hi : (Lit.int .i64 i).wf = true) (us wd : Bool) (w : World) (k14 : (k == 14) = false) (k20 : (k == 20) = false) (f : Nat) (hs : placeN sumsL k = -1) (hf : placeN prodL k = f) (hf8 : f < 8) : Calls Try.prog 53 #[.agg #[.int .i64 k, .int .i64 rd, .int .i64 r1, .int .i64 r2, .int .i64 r3, .int .i64 rm, .int .i64 c, .int .i64 sz, .int .i64 i, .bool false, .bool us, .bool wd]] w fun e w' => e = .returned (.tuple #[.int .u32 (sumB f 1 rd r1 r2 i false wd : Nat), .bool true]) ∧ GN w w' := by
  obtain ⟨z, hz⟩ : ∃ z : Int, z = ((sumB f 1 rd r1 r2 i false wd : Nat) : Int) := ⟨_, rfl⟩
  rw [← hz]
  simp only [sumB, sumOp, or32_cast, if_false, Bool.false_eq_true, Int.natCast_emod, Int.natCast_mul] at hz
  have Hz := hide hz
  clear hz
  go_enter Try.func53, Try.ntmps53
  go_upto_region 6 with (first | (go_at_call 49; refine (mark_any _ _).mono ?_; rintro _ _ ⟨rfl, m_, rfl⟩) | (go_at_call 35; refine (sums_any _).mono ?_; rintro _ _ ⟨rfl, o_, rfl⟩) | (go_at_call 37; refine (products_any _).mono ?_; rintro _ _ ⟨rfl, o_, rfl⟩))
  refine cutS (w := w) (g5 := w.heap.size + 1 + 1 + 1) (g6 := w.heap.size + 1 + 1 + 1 + 1) (x := #[.int .i64 k, .int .i64 rd, .int .i64 r1, .int .i64 r2, .int .i64 r3, .int .i64 rm, .int .i64 c, .int .i64 sz, .int .i64 i, .bool false, .bool us, .bool wd]) (y := #[.int .i64 13, .int .i64 15, .int .i64 16, .int .i64 17, .int .i64 18, .int .i64 19, .int .i64 21, .int .i64 22]) (z := #[.int .i64 23, .int .i64 24, .int .i64 25, .int .i64 26, .int .i64 27, .int .i64 28, .int .i64 29, .int .i64 30]) ?_ ?_ ?_ ?_ fun W hgW hx h5 h6 => ?_
  · exact gnt
  · exact hpt
  · exact hpt
  · exact hpt
  have W1 := lt_of_heap' hx
  have W2 := lt_of_heap' h5
  have W3 := lt_of_heap' h6
  generalize hg5 : w.heap.size + 1 + 1 + 1 = g5 at *
  generalize hg6 : g5 + 1 = g6 at *
  clear hg5 hg6
  have C5 := hide (cells_of (l := sumsL) rfl h5)
  have C6 := hide (cells_of (l := prodL) rfl h6)
  obtain ⟨⟨p0, q0⟩, ⟨p1, q1⟩, ⟨p2, q2⟩, ⟨p3, q3⟩, ⟨p4, q4⟩, ⟨p5, q5⟩, ⟨p6, q6⟩, ⟨p7, q7⟩, ⟨p8, q8⟩, ⟨p9, q9⟩, ⟨p10, q10⟩, ⟨p11, q11⟩⟩ := c12 hx
  go_quiet ((go_at_call 52; exact Calls.quiet_of (place_any sumsL k g5 8 rfl (by decide) _ (unhide C5))))
  go_upto_region 14 with fail
  clear p0 q0 p1 q1 p2 q2 p3 q3 p4 q4 p5 q5 p6 q6 p7 q7 p8 q8 p9 q9 p10 q10 p11 q11 C5 C6 W1 W2 W3
  refine cutS (w := w) (g5 := g5) (g6 := g6) (hgW.drewN _) hx h5 h6 fun W4 hgW4 hx4 h54 h64 => ?_
  clear hgW hx h5 h6
  have W1 := lt_of_heap' hx4
  have W2 := lt_of_heap' h54
  have W3 := lt_of_heap' h64
  have C6 := hide (cells_of (l := prodL) rfl h64)
  obtain ⟨⟨p0, q0⟩, ⟨p1, q1⟩, ⟨p2, q2⟩, ⟨p3, q3⟩, ⟨p4, q4⟩, ⟨p5, q5⟩, ⟨p6, q6⟩, ⟨p7, q7⟩, ⟨p8, q8⟩, ⟨p9, q9⟩, ⟨p10, q10⟩, ⟨p11, q11⟩⟩ := c12 hx4
  go_quiet ((go_at_call 52; exact Calls.quiet_of (place_any prodL k g6 8 rfl (by decide) _ (unhide C6))))
  go_wp2_with (first | (go_at_call 47; refine (i_any _ _ _ _ _ _ _ _ _ (by assumption) _ _ _ _).mono ?_; rintro _ w2 ⟨rfl, hq⟩) | (go_at_call 51; refine (r_any _ _ _ _ _ _ _ _ _ (by assumption) _ _ _ _).mono ?_; rintro _ w2 ⟨rfl, hq⟩))
  go_ret2
  exact ⟨by rw [unhide Hz]; rfl, GN.trans (hgW4.drewN _) hq⟩
set_option maxRecDepth 100000 in
set_option maxHeartbeats 4000000 in
theorem sum_nf (k rd r1 r2 r3 rm c sz i : Int) (_hi : (Lit.int .i64 i).wf = true) (us wd : Bool) (w : World) (k14 : (k == 14) = false) (k20 : (k == 20) = false) (hs : placeN sumsL k = -1) (hf : placeN prodL k = -1) : Calls Try.prog 53 #[.agg #[.int .i64 k, .int .i64 rd, .int .i64 r1, .int .i64 r2, .int .i64 r3, .int .i64 rm, .int .i64 c, .int .i64 sz, .int .i64 i, .bool false, .bool us, .bool wd]] w fun e w' => e = .returned (.tuple #[.int .u32 (0 : Nat), .bool false]) ∧ GN w w' := by
  go_enter Try.func53, Try.ntmps53
  go_upto_region 6 with (first | (go_at_call 49; refine (mark_any _ _).mono ?_; rintro _ _ ⟨rfl, m_, rfl⟩) | (go_at_call 35; refine (sums_any _).mono ?_; rintro _ _ ⟨rfl, o_, rfl⟩) | (go_at_call 37; refine (products_any _).mono ?_; rintro _ _ ⟨rfl, o_, rfl⟩))
  refine cutS (w := w) (g5 := w.heap.size + 1 + 1 + 1) (g6 := w.heap.size + 1 + 1 + 1 + 1) (x := #[.int .i64 k, .int .i64 rd, .int .i64 r1, .int .i64 r2, .int .i64 r3, .int .i64 rm, .int .i64 c, .int .i64 sz, .int .i64 i, .bool false, .bool us, .bool wd]) (y := #[.int .i64 13, .int .i64 15, .int .i64 16, .int .i64 17, .int .i64 18, .int .i64 19, .int .i64 21, .int .i64 22]) (z := #[.int .i64 23, .int .i64 24, .int .i64 25, .int .i64 26, .int .i64 27, .int .i64 28, .int .i64 29, .int .i64 30]) ?_ ?_ ?_ ?_ fun W hgW hx h5 h6 => ?_
  · exact gnt
  · exact hpt
  · exact hpt
  · exact hpt
  have W1 := lt_of_heap' hx
  have W2 := lt_of_heap' h5
  have W3 := lt_of_heap' h6
  generalize hg5 : w.heap.size + 1 + 1 + 1 = g5 at *
  generalize hg6 : g5 + 1 = g6 at *
  clear hg5 hg6
  have C5 := hide (cells_of (l := sumsL) rfl h5)
  have C6 := hide (cells_of (l := prodL) rfl h6)
  obtain ⟨⟨p0, q0⟩, ⟨p1, q1⟩, ⟨p2, q2⟩, ⟨p3, q3⟩, ⟨p4, q4⟩, ⟨p5, q5⟩, ⟨p6, q6⟩, ⟨p7, q7⟩, ⟨p8, q8⟩, ⟨p9, q9⟩, ⟨p10, q10⟩, ⟨p11, q11⟩⟩ := c12 hx
  go_quiet ((go_at_call 52; exact Calls.quiet_of (place_any sumsL k g5 8 rfl (by decide) _ (unhide C5))))
  go_upto_region 14 with fail
  clear p0 q0 p1 q1 p2 q2 p3 q3 p4 q4 p5 q5 p6 q6 p7 q7 p8 q8 p9 q9 p10 q10 p11 q11 C5 C6 W1 W2 W3
  refine cutS (w := w) (g5 := g5) (g6 := g6) (hgW.drewN _) hx h5 h6 fun W4 hgW4 hx4 h54 h64 => ?_
  clear hgW hx h5 h6
  have W1 := lt_of_heap' hx4
  have W2 := lt_of_heap' h54
  have W3 := lt_of_heap' h64
  have C6 := hide (cells_of (l := prodL) rfl h64)
  obtain ⟨⟨p0, q0⟩, ⟨p1, q1⟩, ⟨p2, q2⟩, ⟨p3, q3⟩, ⟨p4, q4⟩, ⟨p5, q5⟩, ⟨p6, q6⟩, ⟨p7, q7⟩, ⟨p8, q8⟩, ⟨p9, q9⟩, ⟨p10, q10⟩, ⟨p11, q11⟩⟩ := c12 hx4
  go_quiet ((go_at_call 52; exact Calls.quiet_of (place_any prodL k g6 8 rfl (by decide) _ (unhide C6))))
  go_wp2_with (first | (go_at_call 47; refine (i_any _ _ _ _ _ _ _ _ _ (by assumption) _ _ _ _).mono ?_; rintro _ w2 ⟨rfl, hq⟩) | (go_at_call 51; refine (r_any _ _ _ _ _ _ _ _ _ (by assumption) _ _ _ _).mono ?_; rintro _ w2 ⟨rfl, hq⟩))
  go_ret2
  exact ⟨rfl, hgW4.drewN _⟩
set_option maxRecDepth 100000 in
set_option maxHeartbeats 4000000 in
theorem sum_14t (k rd r1 r2 r3 rm c sz i : Int) (hi : (Lit.int .i64 i).wf = true) (us wd : Bool) (w : World) (k14 : (k == 14) = true) : Calls Try.prog 53 #[.agg #[.int .i64 k, .int .i64 rd, .int .i64 r1, .int .i64 r2, .int .i64 r3, .int .i64 rm, .int .i64 c, .int .i64 sz, .int .i64 i, .bool true, .bool us, .bool wd]] w fun e w' => e = .returned (.tuple #[.int .u32 (sumB 0 32 rd r1 r2 i true wd : Nat), .bool true]) ∧ GN w w' := by
  obtain ⟨z, hz⟩ : ∃ z : Int, z = ((sumB 0 32 rd r1 r2 i true wd : Nat) : Int) := ⟨_, rfl⟩
  rw [← hz]
  simp only [sumB, sumOp, or32_cast, if_true, Int.natCast_emod, Int.natCast_mul] at hz
  have Hz := hide hz
  clear hz
  go_enter Try.func53, Try.ntmps53
  go_upto_region 6 with (first | (go_at_call 49; refine (mark_any _ _).mono ?_; rintro _ _ ⟨rfl, m_, rfl⟩) | (go_at_call 35; refine (sums_any _).mono ?_; rintro _ _ ⟨rfl, o_, rfl⟩) | (go_at_call 37; refine (products_any _).mono ?_; rintro _ _ ⟨rfl, o_, rfl⟩))
  refine cutS (w := w) (g5 := w.heap.size + 1 + 1 + 1) (g6 := w.heap.size + 1 + 1 + 1 + 1) (x := #[.int .i64 k, .int .i64 rd, .int .i64 r1, .int .i64 r2, .int .i64 r3, .int .i64 rm, .int .i64 c, .int .i64 sz, .int .i64 i, .bool true, .bool us, .bool wd]) (y := #[.int .i64 13, .int .i64 15, .int .i64 16, .int .i64 17, .int .i64 18, .int .i64 19, .int .i64 21, .int .i64 22]) (z := #[.int .i64 23, .int .i64 24, .int .i64 25, .int .i64 26, .int .i64 27, .int .i64 28, .int .i64 29, .int .i64 30]) ?_ ?_ ?_ ?_ fun W hgW hx h5 h6 => ?_
  · exact gnt
  · exact hpt
  · exact hpt
  · exact hpt
  have W1 := lt_of_heap' hx
  have W2 := lt_of_heap' h5
  have W3 := lt_of_heap' h6
  generalize hg5 : w.heap.size + 1 + 1 + 1 = g5 at *
  generalize hg6 : g5 + 1 = g6 at *
  clear hg5 hg6
  have C5 := hide (cells_of (l := sumsL) rfl h5)
  have C6 := hide (cells_of (l := prodL) rfl h6)
  obtain ⟨⟨p0, q0⟩, ⟨p1, q1⟩, ⟨p2, q2⟩, ⟨p3, q3⟩, ⟨p4, q4⟩, ⟨p5, q5⟩, ⟨p6, q6⟩, ⟨p7, q7⟩, ⟨p8, q8⟩, ⟨p9, q9⟩, ⟨p10, q10⟩, ⟨p11, q11⟩⟩ := c12 hx
  go_quiet ((go_at_call 52; exact Calls.quiet_of (place_any sumsL k g5 8 rfl (by decide) _ (unhide C5))))
  go_wp2_with (first | (go_at_call 47; refine (i_any _ _ _ _ _ _ _ _ _ (by assumption) _ _ _ _).mono ?_; rintro _ w2 ⟨rfl, hq⟩) | (go_at_call 51; refine (r_any _ _ _ _ _ _ _ _ _ (by assumption) _ _ _ _).mono ?_; rintro _ w2 ⟨rfl, hq⟩))
  go_ret2
  exact ⟨by rw [unhide Hz]; rfl, GN.trans (hgW.drewN _) hq⟩
set_option maxRecDepth 100000 in
set_option maxHeartbeats 4000000 in
theorem sum_20t (k rd r1 r2 r3 rm c sz i : Int) (hi : (Lit.int .i64 i).wf = true) (us wd : Bool) (w : World) (k14 : (k == 14) = false) (k20 : (k == 20) = true) : Calls Try.prog 53 #[.agg #[.int .i64 k, .int .i64 rd, .int .i64 r1, .int .i64 r2, .int .i64 r3, .int .i64 rm, .int .i64 c, .int .i64 sz, .int .i64 i, .bool true, .bool us, .bool wd]] w fun e w' => e = .returned (.tuple #[.int .u32 (sumB 5 32 rd r1 r2 i true wd : Nat), .bool true]) ∧ GN w w' := by
  obtain ⟨z, hz⟩ : ∃ z : Int, z = ((sumB 5 32 rd r1 r2 i true wd : Nat) : Int) := ⟨_, rfl⟩
  rw [← hz]
  simp only [sumB, sumOp, or32_cast, if_true, Int.natCast_emod, Int.natCast_mul] at hz
  have Hz := hide hz
  clear hz
  go_enter Try.func53, Try.ntmps53
  go_upto_region 6 with (first | (go_at_call 49; refine (mark_any _ _).mono ?_; rintro _ _ ⟨rfl, m_, rfl⟩) | (go_at_call 35; refine (sums_any _).mono ?_; rintro _ _ ⟨rfl, o_, rfl⟩) | (go_at_call 37; refine (products_any _).mono ?_; rintro _ _ ⟨rfl, o_, rfl⟩))
  refine cutS (w := w) (g5 := w.heap.size + 1 + 1 + 1) (g6 := w.heap.size + 1 + 1 + 1 + 1) (x := #[.int .i64 k, .int .i64 rd, .int .i64 r1, .int .i64 r2, .int .i64 r3, .int .i64 rm, .int .i64 c, .int .i64 sz, .int .i64 i, .bool true, .bool us, .bool wd]) (y := #[.int .i64 13, .int .i64 15, .int .i64 16, .int .i64 17, .int .i64 18, .int .i64 19, .int .i64 21, .int .i64 22]) (z := #[.int .i64 23, .int .i64 24, .int .i64 25, .int .i64 26, .int .i64 27, .int .i64 28, .int .i64 29, .int .i64 30]) ?_ ?_ ?_ ?_ fun W hgW hx h5 h6 => ?_
  · exact gnt
  · exact hpt
  · exact hpt
  · exact hpt
  have W1 := lt_of_heap' hx
  have W2 := lt_of_heap' h5
  have W3 := lt_of_heap' h6
  generalize hg5 : w.heap.size + 1 + 1 + 1 = g5 at *
  generalize hg6 : g5 + 1 = g6 at *
  clear hg5 hg6
  have C5 := hide (cells_of (l := sumsL) rfl h5)
  have C6 := hide (cells_of (l := prodL) rfl h6)
  obtain ⟨⟨p0, q0⟩, ⟨p1, q1⟩, ⟨p2, q2⟩, ⟨p3, q3⟩, ⟨p4, q4⟩, ⟨p5, q5⟩, ⟨p6, q6⟩, ⟨p7, q7⟩, ⟨p8, q8⟩, ⟨p9, q9⟩, ⟨p10, q10⟩, ⟨p11, q11⟩⟩ := c12 hx
  go_quiet ((go_at_call 52; exact Calls.quiet_of (place_any sumsL k g5 8 rfl (by decide) _ (unhide C5))))
  go_wp2_with (first | (go_at_call 47; refine (i_any _ _ _ _ _ _ _ _ _ (by assumption) _ _ _ _).mono ?_; rintro _ w2 ⟨rfl, hq⟩) | (go_at_call 51; refine (r_any _ _ _ _ _ _ _ _ _ (by assumption) _ _ _ _).mono ?_; rintro _ w2 ⟨rfl, hq⟩))
  go_ret2
  exact ⟨by rw [unhide Hz]; rfl, GN.trans (hgW.drewN _) hq⟩
set_option maxRecDepth 100000 in
set_option maxHeartbeats 4000000 in
theorem sum_st (k rd r1 r2 r3 rm c sz i : Int) (hi : (Lit.int .i64 i).wf = true) (us wd : Bool) (w : World) (k14 : (k == 14) = false) (k20 : (k == 20) = false) (f : Nat) (hf : placeN sumsL k = f) (hf8 : f < 8) : Calls Try.prog 53 #[.agg #[.int .i64 k, .int .i64 rd, .int .i64 r1, .int .i64 r2, .int .i64 r3, .int .i64 rm, .int .i64 c, .int .i64 sz, .int .i64 i, .bool true, .bool us, .bool wd]] w fun e w' => e = .returned (.tuple #[.int .u32 (sumB f 0 rd r1 r2 i true wd : Nat), .bool true]) ∧ GN w w' := by
  obtain ⟨z, hz⟩ : ∃ z : Int, z = ((sumB f 0 rd r1 r2 i true wd : Nat) : Int) := ⟨_, rfl⟩
  rw [← hz]
  simp only [sumB, sumOp, or32_cast, if_true, Int.natCast_emod, Int.natCast_mul] at hz
  have Hz := hide hz
  clear hz
  go_enter Try.func53, Try.ntmps53
  go_upto_region 6 with (first | (go_at_call 49; refine (mark_any _ _).mono ?_; rintro _ _ ⟨rfl, m_, rfl⟩) | (go_at_call 35; refine (sums_any _).mono ?_; rintro _ _ ⟨rfl, o_, rfl⟩) | (go_at_call 37; refine (products_any _).mono ?_; rintro _ _ ⟨rfl, o_, rfl⟩))
  refine cutS (w := w) (g5 := w.heap.size + 1 + 1 + 1) (g6 := w.heap.size + 1 + 1 + 1 + 1) (x := #[.int .i64 k, .int .i64 rd, .int .i64 r1, .int .i64 r2, .int .i64 r3, .int .i64 rm, .int .i64 c, .int .i64 sz, .int .i64 i, .bool true, .bool us, .bool wd]) (y := #[.int .i64 13, .int .i64 15, .int .i64 16, .int .i64 17, .int .i64 18, .int .i64 19, .int .i64 21, .int .i64 22]) (z := #[.int .i64 23, .int .i64 24, .int .i64 25, .int .i64 26, .int .i64 27, .int .i64 28, .int .i64 29, .int .i64 30]) ?_ ?_ ?_ ?_ fun W hgW hx h5 h6 => ?_
  · exact gnt
  · exact hpt
  · exact hpt
  · exact hpt
  have W1 := lt_of_heap' hx
  have W2 := lt_of_heap' h5
  have W3 := lt_of_heap' h6
  generalize hg5 : w.heap.size + 1 + 1 + 1 = g5 at *
  generalize hg6 : g5 + 1 = g6 at *
  clear hg5 hg6
  have C5 := hide (cells_of (l := sumsL) rfl h5)
  have C6 := hide (cells_of (l := prodL) rfl h6)
  obtain ⟨⟨p0, q0⟩, ⟨p1, q1⟩, ⟨p2, q2⟩, ⟨p3, q3⟩, ⟨p4, q4⟩, ⟨p5, q5⟩, ⟨p6, q6⟩, ⟨p7, q7⟩, ⟨p8, q8⟩, ⟨p9, q9⟩, ⟨p10, q10⟩, ⟨p11, q11⟩⟩ := c12 hx
  go_quiet ((go_at_call 52; exact Calls.quiet_of (place_any sumsL k g5 8 rfl (by decide) _ (unhide C5))))
  go_wp2_with (first | (go_at_call 47; refine (i_any _ _ _ _ _ _ _ _ _ (by assumption) _ _ _ _).mono ?_; rintro _ w2 ⟨rfl, hq⟩) | (go_at_call 51; refine (r_any _ _ _ _ _ _ _ _ _ (by assumption) _ _ _ _).mono ?_; rintro _ w2 ⟨rfl, hq⟩))
  go_ret2
  exact ⟨by rw [unhide Hz]; rfl, GN.trans (hgW.drewN _) hq⟩
set_option maxRecDepth 100000 in
set_option maxHeartbeats 4000000 in
theorem sum_pt (k rd r1 r2 r3 rm c sz i : Int) (hi : (Lit.int .i64 i).wf = true) (us wd : Bool) (w : World) (k14 : (k == 14) = false) (k20 : (k == 20) = false) (f : Nat) (hs : placeN sumsL k = -1) (hf : placeN prodL k = f) (hf8 : f < 8) : Calls Try.prog 53 #[.agg #[.int .i64 k, .int .i64 rd, .int .i64 r1, .int .i64 r2, .int .i64 r3, .int .i64 rm, .int .i64 c, .int .i64 sz, .int .i64 i, .bool true, .bool us, .bool wd]] w fun e w' => e = .returned (.tuple #[.int .u32 (sumB f 1 rd r1 r2 i true wd : Nat), .bool true]) ∧ GN w w' := by
  obtain ⟨z, hz⟩ : ∃ z : Int, z = ((sumB f 1 rd r1 r2 i true wd : Nat) : Int) := ⟨_, rfl⟩
  rw [← hz]
  simp only [sumB, sumOp, or32_cast, if_true, Int.natCast_emod, Int.natCast_mul] at hz
  have Hz := hide hz
  clear hz
  go_enter Try.func53, Try.ntmps53
  go_upto_region 6 with (first | (go_at_call 49; refine (mark_any _ _).mono ?_; rintro _ _ ⟨rfl, m_, rfl⟩) | (go_at_call 35; refine (sums_any _).mono ?_; rintro _ _ ⟨rfl, o_, rfl⟩) | (go_at_call 37; refine (products_any _).mono ?_; rintro _ _ ⟨rfl, o_, rfl⟩))
  refine cutS (w := w) (g5 := w.heap.size + 1 + 1 + 1) (g6 := w.heap.size + 1 + 1 + 1 + 1) (x := #[.int .i64 k, .int .i64 rd, .int .i64 r1, .int .i64 r2, .int .i64 r3, .int .i64 rm, .int .i64 c, .int .i64 sz, .int .i64 i, .bool true, .bool us, .bool wd]) (y := #[.int .i64 13, .int .i64 15, .int .i64 16, .int .i64 17, .int .i64 18, .int .i64 19, .int .i64 21, .int .i64 22]) (z := #[.int .i64 23, .int .i64 24, .int .i64 25, .int .i64 26, .int .i64 27, .int .i64 28, .int .i64 29, .int .i64 30]) ?_ ?_ ?_ ?_ fun W hgW hx h5 h6 => ?_
  · exact gnt
  · exact hpt
  · exact hpt
  · exact hpt
  have W1 := lt_of_heap' hx
  have W2 := lt_of_heap' h5
  have W3 := lt_of_heap' h6
  generalize hg5 : w.heap.size + 1 + 1 + 1 = g5 at *
  generalize hg6 : g5 + 1 = g6 at *
  clear hg5 hg6
  have C5 := hide (cells_of (l := sumsL) rfl h5)
  have C6 := hide (cells_of (l := prodL) rfl h6)
  obtain ⟨⟨p0, q0⟩, ⟨p1, q1⟩, ⟨p2, q2⟩, ⟨p3, q3⟩, ⟨p4, q4⟩, ⟨p5, q5⟩, ⟨p6, q6⟩, ⟨p7, q7⟩, ⟨p8, q8⟩, ⟨p9, q9⟩, ⟨p10, q10⟩, ⟨p11, q11⟩⟩ := c12 hx
  go_quiet ((go_at_call 52; exact Calls.quiet_of (place_any sumsL k g5 8 rfl (by decide) _ (unhide C5))))
  go_upto_region 14 with fail
  clear p0 q0 p1 q1 p2 q2 p3 q3 p4 q4 p5 q5 p6 q6 p7 q7 p8 q8 p9 q9 p10 q10 p11 q11 C5 C6 W1 W2 W3
  refine cutS (w := w) (g5 := g5) (g6 := g6) (hgW.drewN _) hx h5 h6 fun W4 hgW4 hx4 h54 h64 => ?_
  clear hgW hx h5 h6
  have W1 := lt_of_heap' hx4
  have W2 := lt_of_heap' h54
  have W3 := lt_of_heap' h64
  have C6 := hide (cells_of (l := prodL) rfl h64)
  obtain ⟨⟨p0, q0⟩, ⟨p1, q1⟩, ⟨p2, q2⟩, ⟨p3, q3⟩, ⟨p4, q4⟩, ⟨p5, q5⟩, ⟨p6, q6⟩, ⟨p7, q7⟩, ⟨p8, q8⟩, ⟨p9, q9⟩, ⟨p10, q10⟩, ⟨p11, q11⟩⟩ := c12 hx4
  go_quiet ((go_at_call 52; exact Calls.quiet_of (place_any prodL k g6 8 rfl (by decide) _ (unhide C6))))
  go_wp2_with (first | (go_at_call 47; refine (i_any _ _ _ _ _ _ _ _ _ (by assumption) _ _ _ _).mono ?_; rintro _ w2 ⟨rfl, hq⟩) | (go_at_call 51; refine (r_any _ _ _ _ _ _ _ _ _ (by assumption) _ _ _ _).mono ?_; rintro _ w2 ⟨rfl, hq⟩))
  go_ret2
  exact ⟨by rw [unhide Hz]; rfl, GN.trans (hgW4.drewN _) hq⟩
set_option maxRecDepth 100000 in
set_option maxHeartbeats 4000000 in
theorem sum_nt (k rd r1 r2 r3 rm c sz i : Int) (_hi : (Lit.int .i64 i).wf = true) (us wd : Bool) (w : World) (k14 : (k == 14) = false) (k20 : (k == 20) = false) (hs : placeN sumsL k = -1) (hf : placeN prodL k = -1) : Calls Try.prog 53 #[.agg #[.int .i64 k, .int .i64 rd, .int .i64 r1, .int .i64 r2, .int .i64 r3, .int .i64 rm, .int .i64 c, .int .i64 sz, .int .i64 i, .bool true, .bool us, .bool wd]] w fun e w' => e = .returned (.tuple #[.int .u32 (0 : Nat), .bool false]) ∧ GN w w' := by
  go_enter Try.func53, Try.ntmps53
  go_upto_region 6 with (first | (go_at_call 49; refine (mark_any _ _).mono ?_; rintro _ _ ⟨rfl, m_, rfl⟩) | (go_at_call 35; refine (sums_any _).mono ?_; rintro _ _ ⟨rfl, o_, rfl⟩) | (go_at_call 37; refine (products_any _).mono ?_; rintro _ _ ⟨rfl, o_, rfl⟩))
  refine cutS (w := w) (g5 := w.heap.size + 1 + 1 + 1) (g6 := w.heap.size + 1 + 1 + 1 + 1) (x := #[.int .i64 k, .int .i64 rd, .int .i64 r1, .int .i64 r2, .int .i64 r3, .int .i64 rm, .int .i64 c, .int .i64 sz, .int .i64 i, .bool true, .bool us, .bool wd]) (y := #[.int .i64 13, .int .i64 15, .int .i64 16, .int .i64 17, .int .i64 18, .int .i64 19, .int .i64 21, .int .i64 22]) (z := #[.int .i64 23, .int .i64 24, .int .i64 25, .int .i64 26, .int .i64 27, .int .i64 28, .int .i64 29, .int .i64 30]) ?_ ?_ ?_ ?_ fun W hgW hx h5 h6 => ?_
  · exact gnt
  · exact hpt
  · exact hpt
  · exact hpt
  have W1 := lt_of_heap' hx
  have W2 := lt_of_heap' h5
  have W3 := lt_of_heap' h6
  generalize hg5 : w.heap.size + 1 + 1 + 1 = g5 at *
  generalize hg6 : g5 + 1 = g6 at *
  clear hg5 hg6
  have C5 := hide (cells_of (l := sumsL) rfl h5)
  have C6 := hide (cells_of (l := prodL) rfl h6)
  obtain ⟨⟨p0, q0⟩, ⟨p1, q1⟩, ⟨p2, q2⟩, ⟨p3, q3⟩, ⟨p4, q4⟩, ⟨p5, q5⟩, ⟨p6, q6⟩, ⟨p7, q7⟩, ⟨p8, q8⟩, ⟨p9, q9⟩, ⟨p10, q10⟩, ⟨p11, q11⟩⟩ := c12 hx
  go_quiet ((go_at_call 52; exact Calls.quiet_of (place_any sumsL k g5 8 rfl (by decide) _ (unhide C5))))
  go_upto_region 14 with fail
  clear p0 q0 p1 q1 p2 q2 p3 q3 p4 q4 p5 q5 p6 q6 p7 q7 p8 q8 p9 q9 p10 q10 p11 q11 C5 C6 W1 W2 W3
  refine cutS (w := w) (g5 := g5) (g6 := g6) (hgW.drewN _) hx h5 h6 fun W4 hgW4 hx4 h54 h64 => ?_
  clear hgW hx h5 h6
  have W1 := lt_of_heap' hx4
  have W2 := lt_of_heap' h54
  have W3 := lt_of_heap' h64
  have C6 := hide (cells_of (l := prodL) rfl h64)
  obtain ⟨⟨p0, q0⟩, ⟨p1, q1⟩, ⟨p2, q2⟩, ⟨p3, q3⟩, ⟨p4, q4⟩, ⟨p5, q5⟩, ⟨p6, q6⟩, ⟨p7, q7⟩, ⟨p8, q8⟩, ⟨p9, q9⟩, ⟨p10, q10⟩, ⟨p11, q11⟩⟩ := c12 hx4
  go_quiet ((go_at_call 52; exact Calls.quiet_of (place_any prodL k g6 8 rfl (by decide) _ (unhide C6))))
  go_wp2_with (first | (go_at_call 47; refine (i_any _ _ _ _ _ _ _ _ _ (by assumption) _ _ _ _).mono ?_; rintro _ w2 ⟨rfl, hq⟩) | (go_at_call 51; refine (r_any _ _ _ _ _ _ _ _ _ (by assumption) _ _ _ _).mono ?_; rintro _ w2 ⟨rfl, hq⟩))
  go_ret2
  exact ⟨rfl, hgW4.drewN _⟩
end Go.Proofs.Ytopbdiekfhikmaa
