/- Layer 3: bits of operations of floats. / Layer 3: bits of operations of floats (leaves). / Layer 3: bits of operations of floats (leaves). / Layer 3: bits of sums and floats (all). -/
import Derived.Test.YtopbdiekfhikmaaE3
namespace Go.Proofs.Ytopbdiekfhikmaa
open Go.RowKit
def szI (sz : Int) : Int := IntKind.u32.wrap (IntKind.u32.wrap (IntKind.i64.wrap (Int.tdiv sz 8)) * 33554432)
def szN (sz : Int) : Nat := (szI sz).toNat
theorem szN_cast (sz : Int) : ((szN sz : Nat) : Int) = szI sz := by
  have : 0 ≤ szI sz := by
    unfold szI
    simp [IntKind.wrap, IntKind.signed, IntKind.bits]
    omega
  unfold szN
  omega
def floB (sz rd r1 r2 : Int) : Nat := or32 (or32 83 (szN sz)) (rN rd r1 r2)
def cvN (us wd : Bool) : Nat := or32 us.toNat ((!wd).toNat * 2) * 1048576 % 4294967296
def an7 (a : Nat) : Nat := a / 128 * 128
def floN (k rd r1 r2 r3 rm sz : Int) (us wd : Bool) : Nat × Bool :=
  if 55 ≤ k ∧ k ≤ 58 then (or32 (or32 (floB sz rd r1 r2) ((k - 55).toNat * 134217728)) (putN rm 12 3), true)
  else if k = 59 then (or32 (or32 (floB sz rd r1 r2) 1476395008) (putN rm 12 3), true)
  else if 60 ≤ k ∧ k ≤ 63 then (or32 (or32 (or32 (or32 (an7 (floB sz rd r1 r2)) 67) ((k - 60).toNat * 4)) (putN r3 27 5)) (putN rm 12 3), true)
  else if 64 ≤ k ∧ k ≤ 66 then (or32 (or32 (floB sz rd r1 r2) 536870912) ((k - 64).toNat * 4096), true)
  else if 67 ≤ k ∧ k ≤ 68 then (or32 (or32 (floB sz rd r1 r2) 671088640) ((k - 67).toNat * 4096), true)
  else if 69 ≤ k ∧ k ≤ 71 then (or32 (or32 (floB sz rd r1 r2) 2684354560) ((71 - k).toNat * 4096), true)
  else if k = 75 then (or32 (or32 (or32 (floB sz rd r1 r2) 1073741824) ((sz == 4).toNat * 1048576 % 4294967296)) (putN rm 12 3), true)
  else if k = 73 then (or32 (or32 (or32 (floB sz rd r1 r2) 3221225472) (cvN us wd)) (putN rm 12 3), true)
  else if k = 74 then (or32 (or32 (or32 (floB sz rd r1 r2) 3489660928) (cvN us wd)) (putN rm 12 3), true)
  else if k = 76 then (or32 (floB sz rd r1 r2) 3758096384, true)
  else if k = 72 then (or32 (or32 (floB sz rd r1 r2) 3758096384) 4096, true)
  else if k = 77 then (or32 (floB sz rd r1 r2) 4026531840, true)
  else (0, false)
theorem cutx1 {w W0 : World} {c : Code} {Q : Exit → Act → World → Prop} {a : Act} {x : Array Value} (hg : GN w W0) (hx : W0.heap[w.heap.size]? = some (.cells x 25 (0, 0)))
    (k : ∀ W, GN w W → W.heap[w.heap.size]? = some (.cells x 25 (0, 0)) → Code.wp Try.prog c Q a W) : Code.wp Try.prog c Q a W0 := k W0 hg hx
theorem run_loadRow {w : World} {g : Nat} {v0 v1 v2 v3 v4 v5 v6 v7 v8 v9 v10 v11 : Value} (h : w.heap[g]? = some (.cells #[v0, v1, v2, v3, v4, v5, v6, v7, v8, v9, v10, v11] 25 (0, 0))) :
    (Instr.loadAt 25 (.pointer (some ⟨g, 0, none⟩))).run Try.prog w = .ok (.agg #[v0, v1, v2, v3, v4, v5, v6, v7, v8, v9, v10, v11]) w := by
  exact run_loadAt_mid w g 0 25 [v0, v1, v2, v3, v4, v5, v6, v7, v8, v9, v10, v11] _ (range_blk (xs := [v0, v1, v2, v3, v4, v5, v6, v7, v8, v9, v10, v11]) h 0 12 _ rfl) Try.underlying25 rfl (by kernel_rfl)
theorem an7_cast (sz rd r1 r2 : Int) : ((an7 (floB sz rd r1 r2) : Nat) : Int) = bits .andNot .u32 (floB sz rd r1 r2 : Nat) 127 := by
  have hb : floB sz rd r1 r2 < 4294967296 := Nat.mod_lt _ (by decide)
  generalize floB sz rd r1 r2 = b at *
  show _ = IntKind.u32.wrap ((BitVec.ofInt 32 (b : Int) &&& ~~~BitVec.ofInt 32 127).toNat : Int)
  have e1 : ((b : Int) % (2 ^ 32 : Nat)).toNat = b := by omega
  have e2 : 2 ^ 32 - 1 - ((127 : Int) % (2 ^ 32 : Nat)).toNat = (2 ^ 25 - 1) <<< 7 := by decide
  rw [BitVec.toNat_and, BitVec.toNat_not, bv_toNat, bv_toNat, e1, e2, nat_and_high 7 25 b (by omega)]
  unfold an7 IntKind.wrap
  simp [IntKind.signed, IntKind.bits]
  omega
theorem or_run (a b : Nat) (w : World) : (binOp .or 22 (.int .u32 (a : Int)) (.int .u32 (b : Int))).run Try.prog w = .ok (.int .u32 ((or32 a b : Nat) : Int)) w := by
  rw [or32_cast]
  kernel_rfl
theorem or_run83 (sz : Int) (w : World) : (binOp .or 22 (.int .u32 83) (.int .u32 (szI sz))).run Try.prog w = .ok (.int .u32 ((or32 83 (szN sz) : Nat) : Int)) w := by
  rw [← szN_cast]
  exact or_run 83 (szN sz) w
end Go.Proofs.Ytopbdiekfhikmaa
namespace Go.Proofs.Ytopbdiekfhikmaa
open Go.RowKit
set_option maxRecDepth 100000 in
set_option maxHeartbeats 16000000 in
theorem flo_A (k : Int) (hk : k = 55 ∨ k = 56 ∨ k = 57 ∨ k = 58 ∨ k = 59 ∨ k = 60 ∨ k = 61 ∨ k = 62 ∨ k = 63 ∨ k = 64 ∨ k = 65 ∨ k = 66) (rd r1 r2 r3 rm c sz i : Int) (hi : (Lit.int .i64 i).wf = true) (ui us wd : Bool) (w : World) : Calls Try.prog 54 #[.agg #[.int .i64 k, .int .i64 rd, .int .i64 r1, .int .i64 r2, .int .i64 r3, .int .i64 rm, .int .i64 c, .int .i64 sz, .int .i64 i, .bool ui, .bool us, .bool wd]] w fun e w' => e = .returned (.tuple #[.int .u32 ((floN k rd r1 r2 r3 rm sz us wd).1 : Nat), .bool (floN k rd r1 r2 r3 rm sz us wd).2]) ∧ GN w w' := by
  obtain ⟨⟨Zn, Zb⟩, hZ⟩ : ∃ Z, floN k rd r1 r2 r3 rm sz us wd = Z := ⟨_, rfl⟩
  rw [hZ]
  obtain ⟨z, hz⟩ : ∃ z : Int, z = (Zn : Int) := ⟨_, rfl⟩
  show Calls _ _ _ _ (fun e w' => e = .returned (.tuple #[.int .u32 (Zn : Int), .bool Zb]) ∧ GN w w')
  rw [← hz]
  have HZ := hide (And.intro hZ (And.intro hz hk))
  clear hZ hz hk
  go_enter Try.func54, Try.ntmps54
  go_upto_region 1 with fail
  refine cutx1 (w := w) (x := #[.int .i64 k, .int .i64 rd, .int .i64 r1, .int .i64 r2, .int .i64 r3, .int .i64 rm, .int .i64 c, .int .i64 sz, .int .i64 i, .bool ui, .bool us, .bool wd]) ?_ ?_ fun W hgW hx => ?_
  · exact gnt
  · exact hpt
  refine wp_region_F (fun w_ => GN W w_) GN (fun k_ v_ w_ => match k_ with
      | 0 => v_ = .pointer (some ⟨w.heap.size, 7, none⟩)
      | 1 => v_ = .int .i64 sz
      | 2 => v_ = .int .i64 (IntKind.i64.wrap (Int.tdiv sz 8))
      | 3 => v_ = .int .u32 (IntKind.u32.wrap (IntKind.i64.wrap (Int.tdiv sz 8)))
      | 4 => v_ = .int .u32 (szI sz)
      | 5 => v_ = .int .u32 ((or32 83 (szN sz) : Nat) : Int)
      | 6 => v_ = .agg #[.int .i64 k, .int .i64 rd, .int .i64 r1, .int .i64 r2, .int .i64 r3, .int .i64 rm, .int .i64 c, .int .i64 sz, .int .i64 i, .bool ui, .bool us, .bool wd]
      | 7 => v_ = .int .u32 (rN rd r1 r2 : Nat)
      | 8 => v_ = .int .u32 (floB sz rd r1 r2 : Nat)
      | _ => v_ = .int .u32 (floB sz rd r1 r2 : Nat)) fol (by kernel_rfl) ?_ ?_ ?_ ?_
  · exact (GN.refl W).drew
  · intro k_ v_ w_ w2_ h1 hg
    split at h1 <;> exact h1
  · intro vals
    show wpG _ _ _ _ _ _ 0 (_ :: _) _
    refine wpG_cons (gval (.pointer (some ⟨w.heap.size, 7, none⟩)) GN.refl fun w_ hJ hd => ?_) ?_
    · exact ⟨by kernel_rfl, by kernel_rfl, rfl⟩
    refine wpG_cons (gop (Instr.loadAt 3 (.pointer (some ⟨w.heap.size, 7, none⟩))) (.int .i64 sz) GN.refl fun w_ hJ hd => ?_) ?_
    · have e0 : vals 0 = _ := hd 0 (by decide) (by kernel_rfl)
      rw [e0]
      exact ⟨by kernel_rfl, by kernel_rfl, run_load1 (by kernel_rfl) (c12 (GN.heap hJ hx)).2.2.2.2.2.2.2.1.1, rfl⟩
    refine wpG_cons (gval (.int .i64 (IntKind.i64.wrap (Int.tdiv sz 8))) GN.refl fun w_ hJ hd => ?_) ?_
    · have e1 : vals 1 = _ := hd 1 (by decide) (by kernel_rfl)
      rw [e1]
      exact ⟨by kernel_rfl, by kernel_rfl, rfl⟩
    refine wpG_cons (gval (.int .u32 (IntKind.u32.wrap (IntKind.i64.wrap (Int.tdiv sz 8)))) GN.refl fun w_ hJ hd => ?_) ?_
    · have e2 : vals 2 = _ := hd 2 (by decide) (by kernel_rfl)
      rw [e2]
      exact ⟨by kernel_rfl, by kernel_rfl, rfl⟩
    refine wpG_cons (gval (.int .u32 (szI sz)) GN.refl fun w_ hJ hd => ?_) ?_
    · have e3 : vals 3 = _ := hd 3 (by decide) (by kernel_rfl)
      rw [e3]
      exact ⟨by kernel_rfl, by kernel_rfl, rfl⟩
    refine wpG_cons (gop (binOp .or 22 (.int .u32 83) (.int .u32 (szI sz))) (.int .u32 ((or32 83 (szN sz) : Nat) : Int)) GN.refl fun w_ hJ hd => ?_) ?_
    · have e4 : vals 4 = _ := hd 4 (by decide) (by kernel_rfl)
      rw [e4]
      exact ⟨by kernel_rfl, by kernel_rfl, or_run83 sz w_, rfl⟩
    refine wpG_cons (gop (Instr.loadAt 25 (.pointer (some ⟨w.heap.size, 0, none⟩))) (.agg #[.int .i64 k, .int .i64 rd, .int .i64 r1, .int .i64 r2, .int .i64 r3, .int .i64 rm, .int .i64 c, .int .i64 sz, .int .i64 i, .bool ui, .bool us, .bool wd]) GN.refl fun w_ hJ hd => ?_) ?_
    · exact ⟨by kernel_rfl, by kernel_rfl, run_loadRow (GN.heap hJ hx), rfl⟩
    refine wpG_cons (gcall 51 #[.agg #[.int .i64 k, .int .i64 rd, .int .i64 r1, .int .i64 r2, .int .i64 r3, .int .i64 rm, .int .i64 c, .int .i64 sz, .int .i64 i, .bool ui, .bool us, .bool wd]] fun w_ hJ hd => ?_) ?_
    · have e6 : vals 6 = _ := hd 6 (by decide) (by kernel_rfl)
      rw [e6]
      exact ⟨by kernel_rfl, by kernel_rfl, (r_any _ _ _ _ _ _ _ _ _ hi _ _ _ w_).mono fun e w2 ⟨he, hq⟩ => ⟨_, he, GN.trans hJ hq, hq, rfl⟩⟩
    refine wpG_cons (gop (binOp .or 22 (.int .u32 ((or32 83 (szN sz) : Nat) : Int)) (.int .u32 (rN rd r1 r2 : Nat))) (.int .u32 (floB sz rd r1 r2 : Nat)) GN.refl fun w_ hJ hd => ?_) ?_
    · have e5 : vals 5 = _ := hd 5 (by decide) (by kernel_rfl)
      have e7 : vals 7 = _ := hd 7 (by decide) (by kernel_rfl)
      rw [e5, e7]
      exact ⟨by kernel_rfl, by kernel_rfl, or_run _ _ w_, rfl⟩
    refine wpG_cons (gval (.int .u32 (floB sz rd r1 r2 : Nat)) GN.refl fun w_ hJ hd => ?_) wpG_nil
    · have e8 : vals 8 = _ := hd 8 (by decide) (by kernel_rfl)
      rw [e8]
      exact ⟨by kernel_rfl, by kernel_rfl, rfl⟩
  intro vals w_ hJ hf
  have e0 : vals 0 = _ := hf 0 (by decide)
  have e1 : vals 1 = _ := hf 1 (by decide)
  have e2 : vals 2 = _ := hf 2 (by decide)
  have e3 : vals 3 = _ := hf 3 (by decide)
  have e4 : vals 4 = _ := hf 4 (by decide)
  have e5 : vals 5 = _ := hf 5 (by decide)
  have e6 : vals 6 = _ := hf 6 (by decide)
  have e7 : vals 7 = _ := hf 7 (by decide)
  have e8 : vals 8 = _ := hf 8 (by decide)
  have e9 : vals 9 = _ := hf 9 (by decide)
  simp only [fillG, Nat.zero_add, Nat.reduceAdd, e0, e1, e2, e3, e4, e5, e6, e7, e8, e9, Act.put, List.setIfInBounds_toArray, List.set_cons_succ, List.set_cons_zero]
  clear e0 e1 e2 e3 e4 e5 e6 e7 e8 e9 hf
  have hx4 := GN.heap hJ hx
  have hgW4 := GN.trans hgW hJ
  clear hgW hx hJ
  obtain ⟨⟨p0, q0⟩, ⟨p1, q1⟩, ⟨p2, q2⟩, ⟨p3, q3⟩, ⟨p4, q4⟩, ⟨p5, q5⟩, ⟨p6, q6⟩, ⟨p7, q7⟩, ⟨p8, q8⟩, ⟨p9, q9⟩, ⟨p10, q10⟩, ⟨p11, q11⟩⟩ := c12 hx4
  have W1 := lt_of_heap' hx4
  generalize hFB : floB sz rd r1 r2 = FB at *
  have HFB := hide hFB
  clear hFB
  obtain ⟨hZ, hz, hk⟩ := unhide HZ
  clear HZ
  rcases hk with rfl | rfl | rfl | rfl | rfl | rfl | rfl | rfl | rfl | rfl | rfl | rfl
  all_goals
    unfold floN at hZ
    repeat (first | rw [if_pos (by decide)] at hZ | rw [if_neg (by decide)] at hZ)
    injection hZ with hZ1 hZ2
    subst hZ1 hZ2
    try simp only [Int.reduceSub, Int.reduceToNat] at hz
    simp only [or32_cast, an7_cast, Int.natCast_mul, Int.cast_ofNat_Int] at hz
    simp only [unhide HFB] at hz
    have Hz := hide hz
    clear hz
    go_upto_region 3 with (go_at_call 46; refine (put_any _ _ _ (by decide) (by decide) _).mono ?_; rintro _ _ ⟨rfl, m_, rfl⟩)
    refine cutx1 (w := w) (GN.drewN hgW4 _) hx4 fun W5 hgW5 hx5 => ?_
    clear p0 q0 p1 q1 p2 q2 p3 q3 p4 q4 p5 q5 p6 q6 p7 q7 p8 q8 p9 q9 p10 q10 p11 q11 hgW4 hx4 W1
    obtain ⟨⟨p0, q0⟩, ⟨p1, q1⟩, ⟨p2, q2⟩, ⟨p3, q3⟩, ⟨p4, q4⟩, ⟨p5, q5⟩, ⟨p6, q6⟩, ⟨p7, q7⟩, ⟨p8, q8⟩, ⟨p9, q9⟩, ⟨p10, q10⟩, ⟨p11, q11⟩⟩ := c12 hx5
    have W1 := lt_of_heap' hx5
    go_quiet ((go_at_call 49; exact Calls.quiet_of (mark_any _ _)))
    go_wp2_with (first | (go_at_call 49; refine (mark_any _ _).mono ?_; rintro _ _ ⟨rfl, m_, rfl⟩) | (go_at_call 46; refine (put_any _ _ _ (by decide) (by decide) _).mono ?_; rintro _ _ ⟨rfl, m_, rfl⟩))
    go_ret2
    exact ⟨by rw [unhide Hz]; rfl, gnt⟩
set_option maxRecDepth 100000 in
set_option maxHeartbeats 4000000 in
theorem flo_hi (k : Int) (rd r1 r2 r3 rm c sz i : Int) (hi : (Lit.int .i64 i).wf = true) (ui us wd : Bool) (w : World) (h : 77 < k) : Calls Try.prog 54 #[.agg #[.int .i64 k, .int .i64 rd, .int .i64 r1, .int .i64 r2, .int .i64 r3, .int .i64 rm, .int .i64 c, .int .i64 sz, .int .i64 i, .bool ui, .bool us, .bool wd]] w fun e w' => e = .returned (.tuple #[.int .u32 ((0 : Nat) : Int), .bool false]) ∧ GN w w' := by
  have d1 : (55 : Int) ≤ k := by omega
  have d1_ : ¬ k ≤ (58 : Int) := by omega
  have d2 := ne_b (show k ≠ 59 by omega)
  have d3 : (60 : Int) ≤ k := by omega
  have d3_ : ¬ k ≤ (63 : Int) := by omega
  have d4 : (64 : Int) ≤ k := by omega
  have d4_ : ¬ k ≤ (66 : Int) := by omega
  have d5 : (69 : Int) ≤ k := by omega
  have d5_ : ¬ k ≤ (71 : Int) := by omega
  have e67 := ne_b (show k ≠ 67 by omega)
  have e68 := ne_b (show k ≠ 68 by omega)
  have e75 := ne_b (show k ≠ 75 by omega)
  have e73 := ne_b (show k ≠ 73 by omega)
  have e74 := ne_b (show k ≠ 74 by omega)
  have e76 := ne_b (show k ≠ 76 by omega)
  have e72 := ne_b (show k ≠ 72 by omega)
  have e77 := ne_b (show k ≠ 77 by omega)
  clear h
  go_enter Try.func54, Try.ntmps54
  go_upto_region 1 with fail
  refine cutx1 (w := w) (x := #[.int .i64 k, .int .i64 rd, .int .i64 r1, .int .i64 r2, .int .i64 r3, .int .i64 rm, .int .i64 c, .int .i64 sz, .int .i64 i, .bool ui, .bool us, .bool wd]) ?_ ?_ fun W hgW hx => ?_
  · exact gnt
  · exact hpt
  refine wp_region_F (fun w_ => GN W w_) GN (fun k_ v_ w_ => match k_ with
      | 0 => v_ = .pointer (some ⟨w.heap.size, 7, none⟩)
      | 1 => v_ = .int .i64 sz
      | 2 => v_ = .int .i64 (IntKind.i64.wrap (Int.tdiv sz 8))
      | 3 => v_ = .int .u32 (IntKind.u32.wrap (IntKind.i64.wrap (Int.tdiv sz 8)))
      | 4 => v_ = .int .u32 (szI sz)
      | 5 => v_ = .int .u32 ((or32 83 (szN sz) : Nat) : Int)
      | 6 => v_ = .agg #[.int .i64 k, .int .i64 rd, .int .i64 r1, .int .i64 r2, .int .i64 r3, .int .i64 rm, .int .i64 c, .int .i64 sz, .int .i64 i, .bool ui, .bool us, .bool wd]
      | 7 => v_ = .int .u32 (rN rd r1 r2 : Nat)
      | 8 => v_ = .int .u32 (floB sz rd r1 r2 : Nat)
      | _ => v_ = .int .u32 (floB sz rd r1 r2 : Nat)) fol (by kernel_rfl) ?_ ?_ ?_ ?_
  · exact (GN.refl W).drew
  · intro k_ v_ w_ w2_ h1 hg
    split at h1 <;> exact h1
  · intro vals
    show wpG _ _ _ _ _ _ 0 (_ :: _) _
    refine wpG_cons (gval (.pointer (some ⟨w.heap.size, 7, none⟩)) GN.refl fun w_ hJ hd => ?_) ?_
    · exact ⟨by kernel_rfl, by kernel_rfl, rfl⟩
    refine wpG_cons (gop (Instr.loadAt 3 (.pointer (some ⟨w.heap.size, 7, none⟩))) (.int .i64 sz) GN.refl fun w_ hJ hd => ?_) ?_
    · have e0 : vals 0 = _ := hd 0 (by decide) (by kernel_rfl)
      rw [e0]
      exact ⟨by kernel_rfl, by kernel_rfl, run_load1 (by kernel_rfl) (c12 (GN.heap hJ hx)).2.2.2.2.2.2.2.1.1, rfl⟩
    refine wpG_cons (gval (.int .i64 (IntKind.i64.wrap (Int.tdiv sz 8))) GN.refl fun w_ hJ hd => ?_) ?_
    · have e1 : vals 1 = _ := hd 1 (by decide) (by kernel_rfl)
      rw [e1]
      exact ⟨by kernel_rfl, by kernel_rfl, rfl⟩
    refine wpG_cons (gval (.int .u32 (IntKind.u32.wrap (IntKind.i64.wrap (Int.tdiv sz 8)))) GN.refl fun w_ hJ hd => ?_) ?_
    · have e2 : vals 2 = _ := hd 2 (by decide) (by kernel_rfl)
      rw [e2]
      exact ⟨by kernel_rfl, by kernel_rfl, rfl⟩
    refine wpG_cons (gval (.int .u32 (szI sz)) GN.refl fun w_ hJ hd => ?_) ?_
    · have e3 : vals 3 = _ := hd 3 (by decide) (by kernel_rfl)
      rw [e3]
      exact ⟨by kernel_rfl, by kernel_rfl, rfl⟩
    refine wpG_cons (gop (binOp .or 22 (.int .u32 83) (.int .u32 (szI sz))) (.int .u32 ((or32 83 (szN sz) : Nat) : Int)) GN.refl fun w_ hJ hd => ?_) ?_
    · have e4 : vals 4 = _ := hd 4 (by decide) (by kernel_rfl)
      rw [e4]
      exact ⟨by kernel_rfl, by kernel_rfl, or_run83 sz w_, rfl⟩
    refine wpG_cons (gop (Instr.loadAt 25 (.pointer (some ⟨w.heap.size, 0, none⟩))) (.agg #[.int .i64 k, .int .i64 rd, .int .i64 r1, .int .i64 r2, .int .i64 r3, .int .i64 rm, .int .i64 c, .int .i64 sz, .int .i64 i, .bool ui, .bool us, .bool wd]) GN.refl fun w_ hJ hd => ?_) ?_
    · exact ⟨by kernel_rfl, by kernel_rfl, run_loadRow (GN.heap hJ hx), rfl⟩
    refine wpG_cons (gcall 51 #[.agg #[.int .i64 k, .int .i64 rd, .int .i64 r1, .int .i64 r2, .int .i64 r3, .int .i64 rm, .int .i64 c, .int .i64 sz, .int .i64 i, .bool ui, .bool us, .bool wd]] fun w_ hJ hd => ?_) ?_
    · have e6 : vals 6 = _ := hd 6 (by decide) (by kernel_rfl)
      rw [e6]
      exact ⟨by kernel_rfl, by kernel_rfl, (r_any _ _ _ _ _ _ _ _ _ hi _ _ _ w_).mono fun e w2 ⟨he, hq⟩ => ⟨_, he, GN.trans hJ hq, hq, rfl⟩⟩
    refine wpG_cons (gop (binOp .or 22 (.int .u32 ((or32 83 (szN sz) : Nat) : Int)) (.int .u32 (rN rd r1 r2 : Nat))) (.int .u32 (floB sz rd r1 r2 : Nat)) GN.refl fun w_ hJ hd => ?_) ?_
    · have e5 : vals 5 = _ := hd 5 (by decide) (by kernel_rfl)
      have e7 : vals 7 = _ := hd 7 (by decide) (by kernel_rfl)
      rw [e5, e7]
      exact ⟨by kernel_rfl, by kernel_rfl, or_run _ _ w_, rfl⟩
    refine wpG_cons (gval (.int .u32 (floB sz rd r1 r2 : Nat)) GN.refl fun w_ hJ hd => ?_) wpG_nil
    · have e8 : vals 8 = _ := hd 8 (by decide) (by kernel_rfl)
      rw [e8]
      exact ⟨by kernel_rfl, by kernel_rfl, rfl⟩
  intro vals w_ hJ hf
  have e0 : vals 0 = _ := hf 0 (by decide)
  have e1 : vals 1 = _ := hf 1 (by decide)
  have e2 : vals 2 = _ := hf 2 (by decide)
  have e3 : vals 3 = _ := hf 3 (by decide)
  have e4 : vals 4 = _ := hf 4 (by decide)
  have e5 : vals 5 = _ := hf 5 (by decide)
  have e6 : vals 6 = _ := hf 6 (by decide)
  have e7 : vals 7 = _ := hf 7 (by decide)
  have e8 : vals 8 = _ := hf 8 (by decide)
  have e9 : vals 9 = _ := hf 9 (by decide)
  simp only [fillG, Nat.zero_add, Nat.reduceAdd, e0, e1, e2, e3, e4, e5, e6, e7, e8, e9, Act.put, List.setIfInBounds_toArray, List.set_cons_succ, List.set_cons_zero]
  clear e0 e1 e2 e3 e4 e5 e6 e7 e8 e9 hf
  have hx4 := GN.heap hJ hx
  have hgW4 := GN.trans hgW hJ
  clear hgW hx hJ
  obtain ⟨⟨p0, q0⟩, ⟨p1, q1⟩, ⟨p2, q2⟩, ⟨p3, q3⟩, ⟨p4, q4⟩, ⟨p5, q5⟩, ⟨p6, q6⟩, ⟨p7, q7⟩, ⟨p8, q8⟩, ⟨p9, q9⟩, ⟨p10, q10⟩, ⟨p11, q11⟩⟩ := c12 hx4
  have W1 := lt_of_heap' hx4
  generalize hFB : floB sz rd r1 r2 = FB at *
  go_upto_region 3 with (go_at_call 46; refine (put_any _ _ _ (by decide) (by decide) _).mono ?_; rintro _ _ ⟨rfl, m_, rfl⟩)
  refine cutx1 (w := w) (GN.drewN hgW4 _) hx4 fun W5 hgW5 hx5 => ?_
  clear p0 q0 p1 q1 p2 q2 p3 q3 p4 q4 p5 q5 p6 q6 p7 q7 p8 q8 p9 q9 p10 q10 p11 q11 hgW4 hx4 W1
  obtain ⟨⟨p0, q0⟩, ⟨p1, q1⟩, ⟨p2, q2⟩, ⟨p3, q3⟩, ⟨p4, q4⟩, ⟨p5, q5⟩, ⟨p6, q6⟩, ⟨p7, q7⟩, ⟨p8, q8⟩, ⟨p9, q9⟩, ⟨p10, q10⟩, ⟨p11, q11⟩⟩ := c12 hx5
  have W1 := lt_of_heap' hx5
  go_quiet ((go_at_call 49; exact Calls.quiet_of (mark_any _ _)))
  go_wp2_with (first | (go_at_call 49; refine (mark_any _ _).mono ?_; rintro _ _ ⟨rfl, m_, rfl⟩) | (go_at_call 46; refine (put_any _ _ _ (by decide) (by decide) _).mono ?_; rintro _ _ ⟨rfl, m_, rfl⟩))
  go_ret2
  exact ⟨rfl, gnt⟩
end Go.Proofs.Ytopbdiekfhikmaa
namespace Go.Proofs.Ytopbdiekfhikmaa
open Go.RowKit
set_option maxRecDepth 100000 in
set_option maxHeartbeats 16000000 in
theorem flo_B (k : Int) (hk : k = 67 ∨ k = 68 ∨ k = 69 ∨ k = 70 ∨ k = 71 ∨ k = 72 ∨ k = 73 ∨ k = 74 ∨ k = 75 ∨ k = 76 ∨ k = 77) (rd r1 r2 r3 rm c sz i : Int) (hi : (Lit.int .i64 i).wf = true) (ui us wd : Bool) (w : World) : Calls Try.prog 54 #[.agg #[.int .i64 k, .int .i64 rd, .int .i64 r1, .int .i64 r2, .int .i64 r3, .int .i64 rm, .int .i64 c, .int .i64 sz, .int .i64 i, .bool ui, .bool us, .bool wd]] w fun e w' => e = .returned (.tuple #[.int .u32 ((floN k rd r1 r2 r3 rm sz us wd).1 : Nat), .bool (floN k rd r1 r2 r3 rm sz us wd).2]) ∧ GN w w' := by
  obtain ⟨⟨Zn, Zb⟩, hZ⟩ : ∃ Z, floN k rd r1 r2 r3 rm sz us wd = Z := ⟨_, rfl⟩
  rw [hZ]
  obtain ⟨z, hz⟩ : ∃ z : Int, z = (Zn : Int) := ⟨_, rfl⟩
  show Calls _ _ _ _ (fun e w' => e = .returned (.tuple #[.int .u32 (Zn : Int), .bool Zb]) ∧ GN w w')
  rw [← hz]
  have HZ := hide (And.intro hZ (And.intro hz hk))
  clear hZ hz hk
  have U := us.toNat_lt
  have V := (!wd).toNat_lt
  go_enter Try.func54, Try.ntmps54
  go_upto_region 1 with fail
  refine cutx1 (w := w) (x := #[.int .i64 k, .int .i64 rd, .int .i64 r1, .int .i64 r2, .int .i64 r3, .int .i64 rm, .int .i64 c, .int .i64 sz, .int .i64 i, .bool ui, .bool us, .bool wd]) ?_ ?_ fun W hgW hx => ?_
  · exact gnt
  · exact hpt
  refine wp_region_F (fun w_ => GN W w_) GN (fun k_ v_ w_ => match k_ with
      | 0 => v_ = .pointer (some ⟨w.heap.size, 7, none⟩)
      | 1 => v_ = .int .i64 sz
      | 2 => v_ = .int .i64 (IntKind.i64.wrap (Int.tdiv sz 8))
      | 3 => v_ = .int .u32 (IntKind.u32.wrap (IntKind.i64.wrap (Int.tdiv sz 8)))
      | 4 => v_ = .int .u32 (szI sz)
      | 5 => v_ = .int .u32 ((or32 83 (szN sz) : Nat) : Int)
      | 6 => v_ = .agg #[.int .i64 k, .int .i64 rd, .int .i64 r1, .int .i64 r2, .int .i64 r3, .int .i64 rm, .int .i64 c, .int .i64 sz, .int .i64 i, .bool ui, .bool us, .bool wd]
      | 7 => v_ = .int .u32 (rN rd r1 r2 : Nat)
      | 8 => v_ = .int .u32 (floB sz rd r1 r2 : Nat)
      | _ => v_ = .int .u32 (floB sz rd r1 r2 : Nat)) fol (by kernel_rfl) ?_ ?_ ?_ ?_
  · exact (GN.refl W).drew
  · intro k_ v_ w_ w2_ h1 hg
    split at h1 <;> exact h1
  · intro vals
    show wpG _ _ _ _ _ _ 0 (_ :: _) _
    refine wpG_cons (gval (.pointer (some ⟨w.heap.size, 7, none⟩)) GN.refl fun w_ hJ hd => ?_) ?_
    · exact ⟨by kernel_rfl, by kernel_rfl, rfl⟩
    refine wpG_cons (gop (Instr.loadAt 3 (.pointer (some ⟨w.heap.size, 7, none⟩))) (.int .i64 sz) GN.refl fun w_ hJ hd => ?_) ?_
    · have e0 : vals 0 = _ := hd 0 (by decide) (by kernel_rfl)
      rw [e0]
      exact ⟨by kernel_rfl, by kernel_rfl, run_load1 (by kernel_rfl) (c12 (GN.heap hJ hx)).2.2.2.2.2.2.2.1.1, rfl⟩
    refine wpG_cons (gval (.int .i64 (IntKind.i64.wrap (Int.tdiv sz 8))) GN.refl fun w_ hJ hd => ?_) ?_
    · have e1 : vals 1 = _ := hd 1 (by decide) (by kernel_rfl)
      rw [e1]
      exact ⟨by kernel_rfl, by kernel_rfl, rfl⟩
    refine wpG_cons (gval (.int .u32 (IntKind.u32.wrap (IntKind.i64.wrap (Int.tdiv sz 8)))) GN.refl fun w_ hJ hd => ?_) ?_
    · have e2 : vals 2 = _ := hd 2 (by decide) (by kernel_rfl)
      rw [e2]
      exact ⟨by kernel_rfl, by kernel_rfl, rfl⟩
    refine wpG_cons (gval (.int .u32 (szI sz)) GN.refl fun w_ hJ hd => ?_) ?_
    · have e3 : vals 3 = _ := hd 3 (by decide) (by kernel_rfl)
      rw [e3]
      exact ⟨by kernel_rfl, by kernel_rfl, rfl⟩
    refine wpG_cons (gop (binOp .or 22 (.int .u32 83) (.int .u32 (szI sz))) (.int .u32 ((or32 83 (szN sz) : Nat) : Int)) GN.refl fun w_ hJ hd => ?_) ?_
    · have e4 : vals 4 = _ := hd 4 (by decide) (by kernel_rfl)
      rw [e4]
      exact ⟨by kernel_rfl, by kernel_rfl, or_run83 sz w_, rfl⟩
    refine wpG_cons (gop (Instr.loadAt 25 (.pointer (some ⟨w.heap.size, 0, none⟩))) (.agg #[.int .i64 k, .int .i64 rd, .int .i64 r1, .int .i64 r2, .int .i64 r3, .int .i64 rm, .int .i64 c, .int .i64 sz, .int .i64 i, .bool ui, .bool us, .bool wd]) GN.refl fun w_ hJ hd => ?_) ?_
    · exact ⟨by kernel_rfl, by kernel_rfl, run_loadRow (GN.heap hJ hx), rfl⟩
    refine wpG_cons (gcall 51 #[.agg #[.int .i64 k, .int .i64 rd, .int .i64 r1, .int .i64 r2, .int .i64 r3, .int .i64 rm, .int .i64 c, .int .i64 sz, .int .i64 i, .bool ui, .bool us, .bool wd]] fun w_ hJ hd => ?_) ?_
    · have e6 : vals 6 = _ := hd 6 (by decide) (by kernel_rfl)
      rw [e6]
      exact ⟨by kernel_rfl, by kernel_rfl, (r_any _ _ _ _ _ _ _ _ _ hi _ _ _ w_).mono fun e w2 ⟨he, hq⟩ => ⟨_, he, GN.trans hJ hq, hq, rfl⟩⟩
    refine wpG_cons (gop (binOp .or 22 (.int .u32 ((or32 83 (szN sz) : Nat) : Int)) (.int .u32 (rN rd r1 r2 : Nat))) (.int .u32 (floB sz rd r1 r2 : Nat)) GN.refl fun w_ hJ hd => ?_) ?_
    · have e5 : vals 5 = _ := hd 5 (by decide) (by kernel_rfl)
      have e7 : vals 7 = _ := hd 7 (by decide) (by kernel_rfl)
      rw [e5, e7]
      exact ⟨by kernel_rfl, by kernel_rfl, or_run _ _ w_, rfl⟩
    refine wpG_cons (gval (.int .u32 (floB sz rd r1 r2 : Nat)) GN.refl fun w_ hJ hd => ?_) wpG_nil
    · have e8 : vals 8 = _ := hd 8 (by decide) (by kernel_rfl)
      rw [e8]
      exact ⟨by kernel_rfl, by kernel_rfl, rfl⟩
  intro vals w_ hJ hf
  have e0 : vals 0 = _ := hf 0 (by decide)
  have e1 : vals 1 = _ := hf 1 (by decide)
  have e2 : vals 2 = _ := hf 2 (by decide)
  have e3 : vals 3 = _ := hf 3 (by decide)
  have e4 : vals 4 = _ := hf 4 (by decide)
  have e5 : vals 5 = _ := hf 5 (by decide)
  have e6 : vals 6 = _ := hf 6 (by decide)
  have e7 : vals 7 = _ := hf 7 (by decide)
  have e8 : vals 8 = _ := hf 8 (by decide)
  have e9 : vals 9 = _ := hf 9 (by decide)
  simp only [fillG, Nat.zero_add, Nat.reduceAdd, e0, e1, e2, e3, e4, e5, e6, e7, e8, e9, Act.put, List.setIfInBounds_toArray, List.set_cons_succ, List.set_cons_zero]
  clear e0 e1 e2 e3 e4 e5 e6 e7 e8 e9 hf
  have hx4 := GN.heap hJ hx
  have hgW4 := GN.trans hgW hJ
  clear hgW hx hJ
  obtain ⟨⟨p0, q0⟩, ⟨p1, q1⟩, ⟨p2, q2⟩, ⟨p3, q3⟩, ⟨p4, q4⟩, ⟨p5, q5⟩, ⟨p6, q6⟩, ⟨p7, q7⟩, ⟨p8, q8⟩, ⟨p9, q9⟩, ⟨p10, q10⟩, ⟨p11, q11⟩⟩ := c12 hx4
  have W1 := lt_of_heap' hx4
  generalize hFB : floB sz rd r1 r2 = FB at *
  have HFB := hide hFB
  clear hFB
  obtain ⟨hZ, hz, hk⟩ := unhide HZ
  clear HZ
  rcases hk with rfl | rfl | rfl | rfl | rfl | rfl | rfl | rfl | rfl | rfl | rfl
  all_goals
    unfold floN at hZ
    repeat (first | rw [if_pos (by decide)] at hZ | rw [if_neg (by decide)] at hZ)
    injection hZ with hZ1 hZ2
    subst hZ1 hZ2
    try simp only [Int.reduceSub, Int.reduceToNat] at hz
    simp only [cvN, or32_cast, Int.natCast_mul, Int.natCast_emod, Int.cast_ofNat_Int] at hz
    simp only [unhide HFB] at hz
    have Hz := hide hz
    clear hz
    go_upto_region 3 with (go_at_call 46; refine (put_any _ _ _ (by decide) (by decide) _).mono ?_; rintro _ _ ⟨rfl, m_, rfl⟩)
    refine cutx1 (w := w) (GN.drewN hgW4 _) hx4 fun W5 hgW5 hx5 => ?_
    clear p0 q0 p1 q1 p2 q2 p3 q3 p4 q4 p5 q5 p6 q6 p7 q7 p8 q8 p9 q9 p10 q10 p11 q11 hgW4 hx4 W1
    obtain ⟨⟨p0, q0⟩, ⟨p1, q1⟩, ⟨p2, q2⟩, ⟨p3, q3⟩, ⟨p4, q4⟩, ⟨p5, q5⟩, ⟨p6, q6⟩, ⟨p7, q7⟩, ⟨p8, q8⟩, ⟨p9, q9⟩, ⟨p10, q10⟩, ⟨p11, q11⟩⟩ := c12 hx5
    have W1 := lt_of_heap' hx5
    go_quiet ((go_at_call 49; exact Calls.quiet_of (mark_any _ _)))
    go_wp2_with (first | (go_at_call 49; refine (mark_any _ _).mono ?_; rintro _ _ ⟨rfl, m_, rfl⟩) | (go_at_call 46; refine (put_any _ _ _ (by decide) (by decide) _).mono ?_; rintro _ _ ⟨rfl, m_, rfl⟩))
    go_ret2
    exact ⟨by rw [unhide Hz]; rfl, gnt⟩
set_option maxRecDepth 100000 in
set_option maxHeartbeats 4000000 in
theorem flo_lo (k : Int) (rd r1 r2 r3 rm c sz i : Int) (hi : (Lit.int .i64 i).wf = true) (ui us wd : Bool) (w : World) (h : k < 55) : Calls Try.prog 54 #[.agg #[.int .i64 k, .int .i64 rd, .int .i64 r1, .int .i64 r2, .int .i64 r3, .int .i64 rm, .int .i64 c, .int .i64 sz, .int .i64 i, .bool ui, .bool us, .bool wd]] w fun e w' => e = .returned (.tuple #[.int .u32 ((0 : Nat) : Int), .bool false]) ∧ GN w w' := by
  have d1 : ¬ (55 : Int) ≤ k := by omega
  have d2 := ne_b (show k ≠ 59 by omega)
  have d3 : ¬ (60 : Int) ≤ k := by omega
  have d4 : ¬ (64 : Int) ≤ k := by omega
  have d5 : ¬ (69 : Int) ≤ k := by omega
  have e67 := ne_b (show k ≠ 67 by omega)
  have e68 := ne_b (show k ≠ 68 by omega)
  have e75 := ne_b (show k ≠ 75 by omega)
  have e73 := ne_b (show k ≠ 73 by omega)
  have e74 := ne_b (show k ≠ 74 by omega)
  have e76 := ne_b (show k ≠ 76 by omega)
  have e72 := ne_b (show k ≠ 72 by omega)
  have e77 := ne_b (show k ≠ 77 by omega)
  clear h
  go_enter Try.func54, Try.ntmps54
  go_upto_region 1 with fail
  refine cutx1 (w := w) (x := #[.int .i64 k, .int .i64 rd, .int .i64 r1, .int .i64 r2, .int .i64 r3, .int .i64 rm, .int .i64 c, .int .i64 sz, .int .i64 i, .bool ui, .bool us, .bool wd]) ?_ ?_ fun W hgW hx => ?_
  · exact gnt
  · exact hpt
  refine wp_region_F (fun w_ => GN W w_) GN (fun k_ v_ w_ => match k_ with
      | 0 => v_ = .pointer (some ⟨w.heap.size, 7, none⟩)
      | 1 => v_ = .int .i64 sz
      | 2 => v_ = .int .i64 (IntKind.i64.wrap (Int.tdiv sz 8))
      | 3 => v_ = .int .u32 (IntKind.u32.wrap (IntKind.i64.wrap (Int.tdiv sz 8)))
      | 4 => v_ = .int .u32 (szI sz)
      | 5 => v_ = .int .u32 ((or32 83 (szN sz) : Nat) : Int)
      | 6 => v_ = .agg #[.int .i64 k, .int .i64 rd, .int .i64 r1, .int .i64 r2, .int .i64 r3, .int .i64 rm, .int .i64 c, .int .i64 sz, .int .i64 i, .bool ui, .bool us, .bool wd]
      | 7 => v_ = .int .u32 (rN rd r1 r2 : Nat)
      | 8 => v_ = .int .u32 (floB sz rd r1 r2 : Nat)
      | _ => v_ = .int .u32 (floB sz rd r1 r2 : Nat)) fol (by kernel_rfl) ?_ ?_ ?_ ?_
  · exact (GN.refl W).drew
  · intro k_ v_ w_ w2_ h1 hg
    split at h1 <;> exact h1
  · intro vals
    show wpG _ _ _ _ _ _ 0 (_ :: _) _
    refine wpG_cons (gval (.pointer (some ⟨w.heap.size, 7, none⟩)) GN.refl fun w_ hJ hd => ?_) ?_
    · exact ⟨by kernel_rfl, by kernel_rfl, rfl⟩
    refine wpG_cons (gop (Instr.loadAt 3 (.pointer (some ⟨w.heap.size, 7, none⟩))) (.int .i64 sz) GN.refl fun w_ hJ hd => ?_) ?_
    · have e0 : vals 0 = _ := hd 0 (by decide) (by kernel_rfl)
      rw [e0]
      exact ⟨by kernel_rfl, by kernel_rfl, run_load1 (by kernel_rfl) (c12 (GN.heap hJ hx)).2.2.2.2.2.2.2.1.1, rfl⟩
    refine wpG_cons (gval (.int .i64 (IntKind.i64.wrap (Int.tdiv sz 8))) GN.refl fun w_ hJ hd => ?_) ?_
    · have e1 : vals 1 = _ := hd 1 (by decide) (by kernel_rfl)
      rw [e1]
      exact ⟨by kernel_rfl, by kernel_rfl, rfl⟩
    refine wpG_cons (gval (.int .u32 (IntKind.u32.wrap (IntKind.i64.wrap (Int.tdiv sz 8)))) GN.refl fun w_ hJ hd => ?_) ?_
    · have e2 : vals 2 = _ := hd 2 (by decide) (by kernel_rfl)
      rw [e2]
      exact ⟨by kernel_rfl, by kernel_rfl, rfl⟩
    refine wpG_cons (gval (.int .u32 (szI sz)) GN.refl fun w_ hJ hd => ?_) ?_
    · have e3 : vals 3 = _ := hd 3 (by decide) (by kernel_rfl)
      rw [e3]
      exact ⟨by kernel_rfl, by kernel_rfl, rfl⟩
    refine wpG_cons (gop (binOp .or 22 (.int .u32 83) (.int .u32 (szI sz))) (.int .u32 ((or32 83 (szN sz) : Nat) : Int)) GN.refl fun w_ hJ hd => ?_) ?_
    · have e4 : vals 4 = _ := hd 4 (by decide) (by kernel_rfl)
      rw [e4]
      exact ⟨by kernel_rfl, by kernel_rfl, or_run83 sz w_, rfl⟩
    refine wpG_cons (gop (Instr.loadAt 25 (.pointer (some ⟨w.heap.size, 0, none⟩))) (.agg #[.int .i64 k, .int .i64 rd, .int .i64 r1, .int .i64 r2, .int .i64 r3, .int .i64 rm, .int .i64 c, .int .i64 sz, .int .i64 i, .bool ui, .bool us, .bool wd]) GN.refl fun w_ hJ hd => ?_) ?_
    · exact ⟨by kernel_rfl, by kernel_rfl, run_loadRow (GN.heap hJ hx), rfl⟩
    refine wpG_cons (gcall 51 #[.agg #[.int .i64 k, .int .i64 rd, .int .i64 r1, .int .i64 r2, .int .i64 r3, .int .i64 rm, .int .i64 c, .int .i64 sz, .int .i64 i, .bool ui, .bool us, .bool wd]] fun w_ hJ hd => ?_) ?_
    · have e6 : vals 6 = _ := hd 6 (by decide) (by kernel_rfl)
      rw [e6]
      exact ⟨by kernel_rfl, by kernel_rfl, (r_any _ _ _ _ _ _ _ _ _ hi _ _ _ w_).mono fun e w2 ⟨he, hq⟩ => ⟨_, he, GN.trans hJ hq, hq, rfl⟩⟩
    refine wpG_cons (gop (binOp .or 22 (.int .u32 ((or32 83 (szN sz) : Nat) : Int)) (.int .u32 (rN rd r1 r2 : Nat))) (.int .u32 (floB sz rd r1 r2 : Nat)) GN.refl fun w_ hJ hd => ?_) ?_
    · have e5 : vals 5 = _ := hd 5 (by decide) (by kernel_rfl)
      have e7 : vals 7 = _ := hd 7 (by decide) (by kernel_rfl)
      rw [e5, e7]
      exact ⟨by kernel_rfl, by kernel_rfl, or_run _ _ w_, rfl⟩
    refine wpG_cons (gval (.int .u32 (floB sz rd r1 r2 : Nat)) GN.refl fun w_ hJ hd => ?_) wpG_nil
    · have e8 : vals 8 = _ := hd 8 (by decide) (by kernel_rfl)
      rw [e8]
      exact ⟨by kernel_rfl, by kernel_rfl, rfl⟩
  intro vals w_ hJ hf
  have e0 : vals 0 = _ := hf 0 (by decide)
  have e1 : vals 1 = _ := hf 1 (by decide)
  have e2 : vals 2 = _ := hf 2 (by decide)
  have e3 : vals 3 = _ := hf 3 (by decide)
  have e4 : vals 4 = _ := hf 4 (by decide)
  have e5 : vals 5 = _ := hf 5 (by decide)
  have e6 : vals 6 = _ := hf 6 (by decide)
  have e7 : vals 7 = _ := hf 7 (by decide)
  have e8 : vals 8 = _ := hf 8 (by decide)
  have e9 : vals 9 = _ := hf 9 (by decide)
  simp only [fillG, Nat.zero_add, Nat.reduceAdd, e0, e1, e2, e3, e4, e5, e6, e7, e8, e9, Act.put, List.setIfInBounds_toArray, List.set_cons_succ, List.set_cons_zero]
  clear e0 e1 e2 e3 e4 e5 e6 e7 e8 e9 hf
  have hx4 := GN.heap hJ hx
  have hgW4 := GN.trans hgW hJ
  clear hgW hx hJ
  obtain ⟨⟨p0, q0⟩, ⟨p1, q1⟩, ⟨p2, q2⟩, ⟨p3, q3⟩, ⟨p4, q4⟩, ⟨p5, q5⟩, ⟨p6, q6⟩, ⟨p7, q7⟩, ⟨p8, q8⟩, ⟨p9, q9⟩, ⟨p10, q10⟩, ⟨p11, q11⟩⟩ := c12 hx4
  have W1 := lt_of_heap' hx4
  generalize hFB : floB sz rd r1 r2 = FB at *
  go_upto_region 3 with (go_at_call 46; refine (put_any _ _ _ (by decide) (by decide) _).mono ?_; rintro _ _ ⟨rfl, m_, rfl⟩)
  refine cutx1 (w := w) (GN.drewN hgW4 _) hx4 fun W5 hgW5 hx5 => ?_
  clear p0 q0 p1 q1 p2 q2 p3 q3 p4 q4 p5 q5 p6 q6 p7 q7 p8 q8 p9 q9 p10 q10 p11 q11 hgW4 hx4 W1
  obtain ⟨⟨p0, q0⟩, ⟨p1, q1⟩, ⟨p2, q2⟩, ⟨p3, q3⟩, ⟨p4, q4⟩, ⟨p5, q5⟩, ⟨p6, q6⟩, ⟨p7, q7⟩, ⟨p8, q8⟩, ⟨p9, q9⟩, ⟨p10, q10⟩, ⟨p11, q11⟩⟩ := c12 hx5
  have W1 := lt_of_heap' hx5
  go_quiet ((go_at_call 49; exact Calls.quiet_of (mark_any _ _)))
  go_wp2_with (first | (go_at_call 49; refine (mark_any _ _).mono ?_; rintro _ _ ⟨rfl, m_, rfl⟩) | (go_at_call 46; refine (put_any _ _ _ (by decide) (by decide) _).mono ?_; rintro _ _ ⟨rfl, m_, rfl⟩))
  go_ret2
  exact ⟨rfl, gnt⟩
end Go.Proofs.Ytopbdiekfhikmaa
namespace Go.Proofs.Ytopbdiekfhikmaa
open Go.RowKit
theorem sum_any (k rd r1 r2 r3 rm c sz i : Int) (hi : (Lit.int .i64 i).wf = true) (u us wd : Bool) (w : World) : Calls Try.prog 53 #[.agg #[.int .i64 k, .int .i64 rd, .int .i64 r1, .int .i64 r2, .int .i64 r3, .int .i64 rm, .int .i64 c, .int .i64 sz, .int .i64 i, .bool u, .bool us, .bool wd]] w fun e w' => e = .returned (.tuple #[.int .u32 ((sumN k rd r1 r2 i u wd).1 : Nat), .bool (sumN k rd r1 r2 i u wd).2]) ∧ GN w w' := by
  by_cases k14 : k = 14
  · subst k14
    rw [show sumN 14 rd r1 r2 i u wd = (sumB 0 32 rd r1 r2 i u wd, true) from if_pos rfl]
    cases u
    · exact sum_14f 14 rd r1 r2 r3 rm c sz i hi us wd w rfl
    · exact sum_14t 14 rd r1 r2 r3 rm c sz i hi us wd w rfl
  · have n14 := ne_b k14
    by_cases k20 : k = 20
    · subst k20
      rw [show sumN 20 rd r1 r2 i u wd = (sumB 5 32 rd r1 r2 i u wd, true) from by unfold sumN; rw [if_neg (by decide), if_pos rfl]]
      cases u
      · exact sum_20f 20 rd r1 r2 r3 rm c sz i hi us wd w n14 rfl
      · exact sum_20t 20 rd r1 r2 r3 rm c sz i hi us wd w n14 rfl
    · have n20 := ne_b k20
      rcases place_cases sumsL k with h | ⟨f, h, hf⟩
      · rcases place_cases prodL k with h2 | ⟨f, h2, hf⟩
        · rw [show sumN k rd r1 r2 i u wd = (0, false) from by unfold sumN; rw [if_neg k14, if_neg k20, if_neg (by omega), if_neg (by omega)]]
          cases u
          · exact sum_nf k rd r1 r2 r3 rm c sz i hi us wd w n14 n20 h h2
          · exact sum_nt k rd r1 r2 r3 rm c sz i hi us wd w n14 n20 h h2
        · rw [show sumN k rd r1 r2 i u wd = (sumB f 1 rd r1 r2 i u wd, true) from by unfold sumN; rw [if_neg k14, if_neg k20, if_neg (by omega), if_pos (by omega), h2]; rfl]
          cases u
          · exact sum_pf k rd r1 r2 r3 rm c sz i hi us wd w n14 n20 f h h2 hf
          · exact sum_pt k rd r1 r2 r3 rm c sz i hi us wd w n14 n20 f h h2 hf
      · rw [show sumN k rd r1 r2 i u wd = (sumB f 0 rd r1 r2 i u wd, true) from by unfold sumN; rw [if_neg k14, if_neg k20, if_pos (by omega), h]; rfl]
        cases u
        · exact sum_sf k rd r1 r2 r3 rm c sz i hi us wd w n14 n20 f h hf
        · exact sum_st k rd r1 r2 r3 rm c sz i hi us wd w n14 n20 f h hf
theorem flo_any (k rd r1 r2 r3 rm c sz i : Int) (hi : (Lit.int .i64 i).wf = true) (ui us wd : Bool) (w : World) : Calls Try.prog 54 #[.agg #[.int .i64 k, .int .i64 rd, .int .i64 r1, .int .i64 r2, .int .i64 r3, .int .i64 rm, .int .i64 c, .int .i64 sz, .int .i64 i, .bool ui, .bool us, .bool wd]] w fun e w' => e = .returned (.tuple #[.int .u32 ((floN k rd r1 r2 r3 rm sz us wd).1 : Nat), .bool (floN k rd r1 r2 r3 rm sz us wd).2]) ∧ GN w w' := by
  have hc : k < 55 ∨ 77 < k ∨ (k = 55 ∨ k = 56 ∨ k = 57 ∨ k = 58 ∨ k = 59 ∨ k = 60 ∨ k = 61 ∨ k = 62 ∨ k = 63 ∨ k = 64 ∨ k = 65 ∨ k = 66) ∨ (k = 67 ∨ k = 68 ∨ k = 69 ∨ k = 70 ∨ k = 71 ∨ k = 72 ∨ k = 73 ∨ k = 74 ∨ k = 75 ∨ k = 76 ∨ k = 77) := by omega
  rcases hc with h | h | h | h
  · rw [show floN k rd r1 r2 r3 rm sz us wd = (0, false) from by unfold floN; repeat rw [if_neg (by omega)]]
    exact flo_lo k rd r1 r2 r3 rm c sz i hi ui us wd w h
  · rw [show floN k rd r1 r2 r3 rm sz us wd = (0, false) from by unfold floN; repeat rw [if_neg (by omega)]]
    exact flo_hi k rd r1 r2 r3 rm c sz i hi ui us wd w h
  · exact flo_A k h rd r1 r2 r3 rm c sz i hi ui us wd w
  · exact flo_B k h rd r1 r2 r3 rm c sz i hi ui us wd w
end Go.Proofs.Ytopbdiekfhikmaa
