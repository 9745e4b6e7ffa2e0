/- Layer 3: leaves. / Layer 3: leaves. / Layer 3: bits of instructions (all). -/
import Derived.Test.YtopbdiekfhikmaaE5
namespace Go.Proofs.Ytopbdiekfhikmaa
open Go.RowKit
set_option maxRecDepth 100000 in
set_option maxHeartbeats 4000000 in
theorem form_3 (rd r1 r2 r3 rm c sz i : Int) (hi : (Lit.int .i64 i).wf = true) (_hz : (Lit.int .i64 sz).wf = true) (ui : Bool) (us wd : Bool) (w : World) : Calls Try.prog 33 #[.agg #[.int .i64 3, .int .i64 rd, .int .i64 r1, .int .i64 r2, .int .i64 r3, .int .i64 rm, .int .i64 c, .int .i64 sz, .int .i64 i, .bool ui, .bool us, .bool wd]] w fun e w' => e = .returned (.tuple #[.int .u32 ((or32 (or32 (or32 (or32 (or32 (111) (putN rd 7 5)) (putN (i / 2) 21 10)) (putN (i / 2048) 20 1)) (putN (i / 4096) 12 8)) (putN (i / 1048576) 31 1) : Nat) : Int), .bool true]) ∧ GN w w' := by
  obtain ⟨z, hz⟩ : ∃ z : Int, z = ((or32 (or32 (or32 (or32 (or32 (111) (putN rd 7 5)) (putN (i / 2) 21 10)) (putN (i / 2048) 20 1)) (putN (i / 4096) 12 8)) (putN (i / 1048576) 31 1) : Nat) : Int) := ⟨_, rfl⟩
  rw [← hz]
  simp only [or32_cast, Int.cast_ofNat_Int] at hz
  have Hz := hide hz
  clear hz
  have hi2 := i64' hi
  go_enter Try.func33, Try.ntmps33
  go_upto_region 2 with (first | (go_at_call 21; refine (branches_ab _).mono ?_; rintro _ _ ⟨B, hB, rfl, o_, rfl⟩) | (go_at_call 38; refine (atomics_ab _).mono ?_; rintro _ _ ⟨A, hA, rfl, o_, rfl⟩) | (refine wpL_store_row rfl 38 (.tmp 4) (.tmp 12) rfl _ B rfl rfl 38 #[.int .i64 0, .int .i64 0, .int .i64 0, .int .i64 0, .int .i64 0, .int .i64 0, .int .i64 0, .int .i64 0] ?_ (info38 hB).1 (info38 hB).2.1 (info38 hB).2.2 ?_; · exact hp_alloc (hp_last (by simp))) | (refine wpL_store_row rfl 52 (.tmp 5) (.tmp 13) rfl _ A rfl rfl 52 #[.int .i64 0, .int .i64 0, .int .i64 0, .int .i64 0, .int .i64 0, .int .i64 0, .int .i64 0, .int .i64 0, .int .i64 0, .int .i64 0, .int .i64 0, .int .i64 0, .int .i64 0, .int .i64 0, .int .i64 0, .int .i64 0, .int .i64 0, .int .i64 0, .int .i64 0, .int .i64 0, .int .i64 0, .int .i64 0, .int .i64 0, .int .i64 0, .int .i64 0, .int .i64 0, .int .i64 0, .int .i64 0, .int .i64 0, .int .i64 0, .int .i64 0, .int .i64 0] ?_ (info52 hA).1 (info52 hA).2.1 (info52 hA).2.2 ?_; · exact row_ne (by omega) (hp_last (by simp))))
  with_reducible refine form_start fun W hgW hx h5 h6 => ?_
  generalize hg5 : w.heap.size + 1 + 1 + 1 = g5 at *
  generalize hg6 : g5 + 1 = g6 at *
  clear hg5 hg6
  have W1 := lt_of_heap' hx
  have W2 := lt_of_heap' h5
  have W3 := lt_of_heap' h6
  obtain ⟨⟨p0, q0⟩, ⟨p1, q1⟩, ⟨p2, q2⟩, ⟨p3, q3⟩, ⟨p4, q4⟩, ⟨p5, q5⟩, ⟨p6, q6⟩, ⟨p7, q7⟩, ⟨p8, q8⟩, ⟨p9, q9⟩, ⟨p10, q10⟩, ⟨p11, q11⟩⟩ := c12 hx
  go_upto_region 8 with fail
  go_quiet ((go_at_call 46; exact Calls.quiet_of (put_any _ _ _ (by decide) (by decide) _)))
  go_wp2
  go_ret2
  exact ⟨by rw [unhide Hz]; rfl, gnt⟩
set_option maxRecDepth 100000 in
set_option maxHeartbeats 4000000 in
theorem form_53 (rd r1 r2 r3 rm c sz i : Int) (hi : (Lit.int .i64 i).wf = true) (hz : (Lit.int .i64 sz).wf = true) (ui : Bool) (us wd : Bool) (w : World) : Calls Try.prog 33 #[.agg #[.int .i64 53, .int .i64 rd, .int .i64 r1, .int .i64 r2, .int .i64 r3, .int .i64 rm, .int .i64 c, .int .i64 sz, .int .i64 i, .bool ui, .bool us, .bool wd]] w fun e w' => e = .returned (.tuple #[.int .u32 ((or32 (or32 (7) (logN sz * 4096 % 4294967296)) (iN rd r1 i) : Nat) : Int), .bool true]) ∧ GN w w' := by
  obtain ⟨hs1, hs2⟩ := i64' hz
  go_enter Try.func33, Try.ntmps33
  go_upto_region 2 with (first | (go_at_call 21; refine (branches_ab _).mono ?_; rintro _ _ ⟨B, hB, rfl, o_, rfl⟩) | (go_at_call 38; refine (atomics_ab _).mono ?_; rintro _ _ ⟨A, hA, rfl, o_, rfl⟩) | (refine wpL_store_row rfl 38 (.tmp 4) (.tmp 12) rfl _ B rfl rfl 38 #[.int .i64 0, .int .i64 0, .int .i64 0, .int .i64 0, .int .i64 0, .int .i64 0, .int .i64 0, .int .i64 0] ?_ (info38 hB).1 (info38 hB).2.1 (info38 hB).2.2 ?_; · exact hp_alloc (hp_last (by simp))) | (refine wpL_store_row rfl 52 (.tmp 5) (.tmp 13) rfl _ A rfl rfl 52 #[.int .i64 0, .int .i64 0, .int .i64 0, .int .i64 0, .int .i64 0, .int .i64 0, .int .i64 0, .int .i64 0, .int .i64 0, .int .i64 0, .int .i64 0, .int .i64 0, .int .i64 0, .int .i64 0, .int .i64 0, .int .i64 0, .int .i64 0, .int .i64 0, .int .i64 0, .int .i64 0, .int .i64 0, .int .i64 0, .int .i64 0, .int .i64 0, .int .i64 0, .int .i64 0, .int .i64 0, .int .i64 0, .int .i64 0, .int .i64 0, .int .i64 0, .int .i64 0] ?_ (info52 hA).1 (info52 hA).2.1 (info52 hA).2.2 ?_; · exact row_ne (by omega) (hp_last (by simp))))
  with_reducible refine form_start fun W hgW hx h5 h6 => ?_
  generalize hg5 : w.heap.size + 1 + 1 + 1 = g5 at *
  generalize hg6 : g5 + 1 = g6 at *
  clear hg5 hg6
  have W1 := lt_of_heap' hx
  have W2 := lt_of_heap' h5
  have W3 := lt_of_heap' h6
  obtain ⟨⟨p0, q0⟩, ⟨p1, q1⟩, ⟨p2, q2⟩, ⟨p3, q3⟩, ⟨p4, q4⟩, ⟨p5, q5⟩, ⟨p6, q6⟩, ⟨p7, q7⟩, ⟨p8, q8⟩, ⟨p9, q9⟩, ⟨p10, q10⟩, ⟨p11, q11⟩⟩ := c12 hx
  go_upto_region 16 with fail
  clear p0 q0 p1 q1 p2 q2 p3 q3 p4 q4 p5 q5 p6 q6 p7 q7 p8 q8 p9 q9 p10 q10 p11 q11
  refine wp_region_F (fun w_ => GN W w_) GN (fun k_ v_ w_ => match k_ with
      | 0 => v_ = .pointer (some ⟨w.heap.size, 7, none⟩)
      | 1 => v_ = .int .i64 sz
      | 2 => v_ = .int .u32 ((logN sz : Nat) : Int)
      | 3 => v_ = .int .u32 ((logN sz * 4096 % 4294967296 : Nat) : Int)
      | 4 => v_ = .int .u32 ((or32 (7) (logN sz * 4096 % 4294967296) : Nat) : Int)
      | 5 => v_ = .agg #[.int .i64 53, .int .i64 rd, .int .i64 r1, .int .i64 r2, .int .i64 r3, .int .i64 rm, .int .i64 c, .int .i64 sz, .int .i64 i, .bool ui, .bool us, .bool wd]
      | 6 => v_ = .int .u32 ((iN rd r1 i : Nat) : Int)
      | 7 => v_ = .int .u32 ((or32 (or32 (7) (logN sz * 4096 % 4294967296)) (iN rd r1 i) : Nat) : Int)
      | 8 => v_ = .int .u32 ((or32 (or32 (7) (logN sz * 4096 % 4294967296)) (iN rd r1 i) : Nat) : Int)
      | _ => v_ = .bool true) fol (by kernel_rfl) ?_ ?_ ?_ ?_
  · exact (GN.refl W).drew
  · intro k_ v_ w_ w2_ h1 hg
    split at h1 <;> exact h1
  · intro vals
    show wpG _ _ _ _ _ _ 0 (_ :: _) _
    refine wpG_cons (gval (.pointer (some ⟨w.heap.size, 7, none⟩)) GN.refl fun w_ hJ hd => ?_) ?_
    · exact ⟨by kernel_rfl, by kernel_rfl, rfl⟩
    refine wpG_cons (gop (Instr.loadAt 3 (.pointer (some ⟨w.heap.size, 7, none⟩))) (.int .i64 sz) GN.refl fun w_ hJ hd => ?_) ?_
    · have e0 : vals 0 = _ := hd 0 (by decide) (by kernel_rfl)
      rw [e0]
      exact ⟨by kernel_rfl, by kernel_rfl, run_load1 (by kernel_rfl) (c12 (GN.heap hJ hx)).2.2.2.2.2.2.2.1.1, rfl⟩
    refine wpG_cons (gcall 48 #[.int .i64 sz] fun w_ hJ hd => ?_) ?_
    · have e1 : vals 1 = _ := hd 1 (by decide) (by kernel_rfl)
      rw [e1]
      exact ⟨by kernel_rfl, by kernel_rfl, (log_any sz hs1 hs2 w_).mono fun e w2 ⟨he, m, hw⟩ => ⟨_, he, by subst hw; exact hJ.drewN _, by subst hw; exact (GN.refl w_).drewN _, rfl⟩⟩
    refine wpG_cons (gop (binOp .shl 22 (.int .u32 ((logN sz : Nat) : Int)) (.int .u64 12)) (.int .u32 ((logN sz * 4096 % 4294967296 : Nat) : Int)) GN.refl fun w_ hJ hd => ?_) ?_
    · have e2 : vals 2 = _ := hd 2 (by decide) (by kernel_rfl)
      rw [e2]
      exact ⟨by kernel_rfl, by kernel_rfl, shl12 (logN sz) w_, rfl⟩
    refine wpG_cons (gop (binOp .or 22 (.int .u32 7) (.int .u32 ((logN sz * 4096 % 4294967296 : Nat) : Int))) (.int .u32 ((or32 (7) (logN sz * 4096 % 4294967296) : Nat) : Int)) GN.refl fun w_ hJ hd => ?_) ?_
    · have e3 : vals 3 = _ := hd 3 (by decide) (by kernel_rfl)
      rw [e3]
      exact ⟨by kernel_rfl, by kernel_rfl, or_run 7 (logN sz * 4096 % 4294967296) w_, rfl⟩
    refine wpG_cons (gop (Instr.loadAt 25 (.pointer (some ⟨w.heap.size, 0, none⟩))) (.agg #[.int .i64 53, .int .i64 rd, .int .i64 r1, .int .i64 r2, .int .i64 r3, .int .i64 rm, .int .i64 c, .int .i64 sz, .int .i64 i, .bool ui, .bool us, .bool wd]) GN.refl fun w_ hJ hd => ?_) ?_
    · exact ⟨by kernel_rfl, by kernel_rfl, run_loadRow (GN.heap hJ hx), rfl⟩
    refine wpG_cons (gcall 47 #[.agg #[.int .i64 53, .int .i64 rd, .int .i64 r1, .int .i64 r2, .int .i64 r3, .int .i64 rm, .int .i64 c, .int .i64 sz, .int .i64 i, .bool ui, .bool us, .bool wd]] fun w_ hJ hd => ?_) ?_
    · have e5 : vals 5 = _ := hd 5 (by decide) (by kernel_rfl)
      rw [e5]
      exact ⟨by kernel_rfl, by kernel_rfl, (i_any _ _ _ _ _ _ _ _ _ hi _ _ _ w_).mono fun e w2 ⟨he, hq⟩ => ⟨_, he, GN.trans hJ hq, hq, rfl⟩⟩
    refine wpG_cons (gop (binOp .or 22 (.int .u32 ((or32 (7) (logN sz * 4096 % 4294967296) : Nat) : Int)) (.int .u32 ((iN rd r1 i : Nat) : Int))) (.int .u32 ((or32 (or32 (7) (logN sz * 4096 % 4294967296)) (iN rd r1 i) : Nat) : Int)) GN.refl fun w_ hJ hd => ?_) ?_
    · have e4 : vals 4 = _ := hd 4 (by decide) (by kernel_rfl)
      have e6 : vals 6 = _ := hd 6 (by decide) (by kernel_rfl)
      rw [e4, e6]
      exact ⟨by kernel_rfl, by kernel_rfl, or_run _ _ w_, rfl⟩
    refine wpG_cons (gval (.int .u32 ((or32 (or32 (7) (logN sz * 4096 % 4294967296)) (iN rd r1 i) : Nat) : Int)) GN.refl fun w_ hJ hd => ?_) ?_
    · have e7 : vals 7 = _ := hd 7 (by decide) (by kernel_rfl)
      rw [e7]
      exact ⟨by kernel_rfl, by kernel_rfl, rfl⟩
    refine wpG_cons (gval (.bool true) GN.refl fun w_ hJ hd => ?_) wpG_nil
    · exact ⟨by kernel_rfl, by kernel_rfl, rfl⟩
  intro vals w_ hJ hf
  have e0 : vals 0 = _ := hf 0 (by decide)
  have e1 : vals 1 = _ := hf 1 (by decide)
  have e2 : vals 2 = _ := hf 2 (by decide)
  have e3 : vals 3 = _ := hf 3 (by decide)
  have e4 : vals 4 = _ := hf 4 (by decide)
  have e5 : vals 5 = _ := hf 5 (by decide)
  have e6 : vals 6 = _ := hf 6 (by decide)
  have e7 : vals 7 = _ := hf 7 (by decide)
  have e8 : vals 8 = _ := hf 8 (by decide)
  have e9 : vals 9 = _ := hf 9 (by decide)
  simp only [fillG, Nat.zero_add, Nat.reduceAdd, e0, e1, e2, e3, e4, e5, e6, e7, e8, e9, Act.put, List.setIfInBounds_toArray, List.set_cons_succ, List.set_cons_zero]
  clear e0 e1 e2 e3 e4 e5 e6 e7 e8 e9 hf
  have hgn := GN.trans hgW hJ
  go_wp2
  go_ret2
  exact ⟨rfl, gnt⟩
set_option maxRecDepth 100000 in
set_option maxHeartbeats 4000000 in
theorem form_33 (rd r1 r2 r3 rm c sz i : Int) (_hi : (Lit.int .i64 i).wf = true) (_hz : (Lit.int .i64 sz).wf = true) (ui : Bool) (us wd : Bool) (w : World) : Calls Try.prog 33 #[.agg #[.int .i64 33, .int .i64 rd, .int .i64 r1, .int .i64 r2, .int .i64 r3, .int .i64 rm, .int .i64 c, .int .i64 sz, .int .i64 i, .bool ui, .bool us, .bool wd]] w fun e w' => e = .returned (.tuple #[.int .u32 ((115 : Nat) : Int), .bool true]) ∧ GN w w' := by
  obtain ⟨z, hz⟩ : ∃ z : Int, z = ((115 : Nat) : Int) := ⟨_, rfl⟩
  rw [← hz]
  simp only [Int.cast_ofNat_Int] at hz
  have Hz := hide hz
  clear hz
  go_enter Try.func33, Try.ntmps33
  go_upto_region 2 with (first | (go_at_call 21; refine (branches_ab _).mono ?_; rintro _ _ ⟨B, hB, rfl, o_, rfl⟩) | (go_at_call 38; refine (atomics_ab _).mono ?_; rintro _ _ ⟨A, hA, rfl, o_, rfl⟩) | (refine wpL_store_row rfl 38 (.tmp 4) (.tmp 12) rfl _ B rfl rfl 38 #[.int .i64 0, .int .i64 0, .int .i64 0, .int .i64 0, .int .i64 0, .int .i64 0, .int .i64 0, .int .i64 0] ?_ (info38 hB).1 (info38 hB).2.1 (info38 hB).2.2 ?_; · exact hp_alloc (hp_last (by simp))) | (refine wpL_store_row rfl 52 (.tmp 5) (.tmp 13) rfl _ A rfl rfl 52 #[.int .i64 0, .int .i64 0, .int .i64 0, .int .i64 0, .int .i64 0, .int .i64 0, .int .i64 0, .int .i64 0, .int .i64 0, .int .i64 0, .int .i64 0, .int .i64 0, .int .i64 0, .int .i64 0, .int .i64 0, .int .i64 0, .int .i64 0, .int .i64 0, .int .i64 0, .int .i64 0, .int .i64 0, .int .i64 0, .int .i64 0, .int .i64 0, .int .i64 0, .int .i64 0, .int .i64 0, .int .i64 0, .int .i64 0, .int .i64 0, .int .i64 0, .int .i64 0] ?_ (info52 hA).1 (info52 hA).2.1 (info52 hA).2.2 ?_; · exact row_ne (by omega) (hp_last (by simp))))
  with_reducible refine form_start fun W hgW hx h5 h6 => ?_
  generalize hg5 : w.heap.size + 1 + 1 + 1 = g5 at *
  generalize hg6 : g5 + 1 = g6 at *
  clear hg5 hg6
  have W1 := lt_of_heap' hx
  have W2 := lt_of_heap' h5
  have W3 := lt_of_heap' h6
  obtain ⟨⟨p0, q0⟩, ⟨p1, q1⟩, ⟨p2, q2⟩, ⟨p3, q3⟩, ⟨p4, q4⟩, ⟨p5, q5⟩, ⟨p6, q6⟩, ⟨p7, q7⟩, ⟨p8, q8⟩, ⟨p9, q9⟩, ⟨p10, q10⟩, ⟨p11, q11⟩⟩ := c12 hx
  go_wp2
  go_ret2
  exact ⟨by rw [unhide Hz]; rfl, gnt⟩
set_option maxRecDepth 100000 in
set_option maxHeartbeats 4000000 in
theorem form_51 (rd r1 r2 r3 rm c sz i : Int) (_hi : (Lit.int .i64 i).wf = true) (_hz : (Lit.int .i64 sz).wf = true) (ui : Bool) (us wd : Bool) (w : World) : Calls Try.prog 33 #[.agg #[.int .i64 51, .int .i64 rd, .int .i64 r1, .int .i64 r2, .int .i64 r3, .int .i64 rm, .int .i64 c, .int .i64 sz, .int .i64 i, .bool ui, .bool us, .bool wd]] w fun e w' => e = .returned (.tuple #[.int .u32 ((273678451 : Nat) : Int), .bool true]) ∧ GN w w' := by
  obtain ⟨z, hz⟩ : ∃ z : Int, z = ((273678451 : Nat) : Int) := ⟨_, rfl⟩
  rw [← hz]
  simp only [Int.cast_ofNat_Int] at hz
  have Hz := hide hz
  clear hz
  go_enter Try.func33, Try.ntmps33
  go_upto_region 2 with (first | (go_at_call 21; refine (branches_ab _).mono ?_; rintro _ _ ⟨B, hB, rfl, o_, rfl⟩) | (go_at_call 38; refine (atomics_ab _).mono ?_; rintro _ _ ⟨A, hA, rfl, o_, rfl⟩) | (refine wpL_store_row rfl 38 (.tmp 4) (.tmp 12) rfl _ B rfl rfl 38 #[.int .i64 0, .int .i64 0, .int .i64 0, .int .i64 0, .int .i64 0, .int .i64 0, .int .i64 0, .int .i64 0] ?_ (info38 hB).1 (info38 hB).2.1 (info38 hB).2.2 ?_; · exact hp_alloc (hp_last (by simp))) | (refine wpL_store_row rfl 52 (.tmp 5) (.tmp 13) rfl _ A rfl rfl 52 #[.int .i64 0, .int .i64 0, .int .i64 0, .int .i64 0, .int .i64 0, .int .i64 0, .int .i64 0, .int .i64 0, .int .i64 0, .int .i64 0, .int .i64 0, .int .i64 0, .int .i64 0, .int .i64 0, .int .i64 0, .int .i64 0, .int .i64 0, .int .i64 0, .int .i64 0, .int .i64 0, .int .i64 0, .int .i64 0, .int .i64 0, .int .i64 0, .int .i64 0, .int .i64 0, .int .i64 0, .int .i64 0, .int .i64 0, .int .i64 0, .int .i64 0, .int .i64 0] ?_ (info52 hA).1 (info52 hA).2.1 (info52 hA).2.2 ?_; · exact row_ne (by omega) (hp_last (by simp))))
  with_reducible refine form_start fun W hgW hx h5 h6 => ?_
  generalize hg5 : w.heap.size + 1 + 1 + 1 = g5 at *
  generalize hg6 : g5 + 1 = g6 at *
  clear hg5 hg6
  have W1 := lt_of_heap' hx
  have W2 := lt_of_heap' h5
  have W3 := lt_of_heap' h6
  obtain ⟨⟨p0, q0⟩, ⟨p1, q1⟩, ⟨p2, q2⟩, ⟨p3, q3⟩, ⟨p4, q4⟩, ⟨p5, q5⟩, ⟨p6, q6⟩, ⟨p7, q7⟩, ⟨p8, q8⟩, ⟨p9, q9⟩, ⟨p10, q10⟩, ⟨p11, q11⟩⟩ := c12 hx
  go_wp2
  go_ret2
  exact ⟨by rw [unhide Hz]; rfl, gnt⟩
set_option maxRecDepth 100000 in
set_option maxHeartbeats 4000000 in
theorem form_36f (rd r1 r2 r3 rm c sz i : Int) (_hi : (Lit.int .i64 i).wf = true) (_hz : (Lit.int .i64 sz).wf = true) (us wd : Bool) (w : World) : Calls Try.prog 33 #[.agg #[.int .i64 36, .int .i64 rd, .int .i64 r1, .int .i64 r2, .int .i64 r3, .int .i64 rm, .int .i64 c, .int .i64 sz, .int .i64 i, .bool false, .bool us, .bool wd]] w fun e w' => e = .returned (.tuple #[.int .u32 ((or32 (or32 (or32 (or32 (115) (8192)) (putN rd 7 5)) (putN r1 15 5)) (putN c 20 12) : Nat) : Int), .bool true]) ∧ GN w w' := by
  obtain ⟨z, hz⟩ : ∃ z : Int, z = ((or32 (or32 (or32 (or32 (115) (8192)) (putN rd 7 5)) (putN r1 15 5)) (putN c 20 12) : Nat) : Int) := ⟨_, rfl⟩
  rw [← hz]
  simp only [or32_cast, Int.cast_ofNat_Int] at hz
  have Hz := hide hz
  clear hz
  go_enter Try.func33, Try.ntmps33
  go_upto_region 2 with (first | (go_at_call 21; refine (branches_ab _).mono ?_; rintro _ _ ⟨B, hB, rfl, o_, rfl⟩) | (go_at_call 38; refine (atomics_ab _).mono ?_; rintro _ _ ⟨A, hA, rfl, o_, rfl⟩) | (refine wpL_store_row rfl 38 (.tmp 4) (.tmp 12) rfl _ B rfl rfl 38 #[.int .i64 0, .int .i64 0, .int .i64 0, .int .i64 0, .int .i64 0, .int .i64 0, .int .i64 0, .int .i64 0] ?_ (info38 hB).1 (info38 hB).2.1 (info38 hB).2.2 ?_; · exact hp_alloc (hp_last (by simp))) | (refine wpL_store_row rfl 52 (.tmp 5) (.tmp 13) rfl _ A rfl rfl 52 #[.int .i64 0, .int .i64 0, .int .i64 0, .int .i64 0, .int .i64 0, .int .i64 0, .int .i64 0, .int .i64 0, .int .i64 0, .int .i64 0, .int .i64 0, .int .i64 0, .int .i64 0, .int .i64 0, .int .i64 0, .int .i64 0, .int .i64 0, .int .i64 0, .int .i64 0, .int .i64 0, .int .i64 0, .int .i64 0, .int .i64 0, .int .i64 0, .int .i64 0, .int .i64 0, .int .i64 0, .int .i64 0, .int .i64 0, .int .i64 0, .int .i64 0, .int .i64 0] ?_ (info52 hA).1 (info52 hA).2.1 (info52 hA).2.2 ?_; · exact row_ne (by omega) (hp_last (by simp))))
  with_reducible refine form_start fun W hgW hx h5 h6 => ?_
  generalize hg5 : w.heap.size + 1 + 1 + 1 = g5 at *
  generalize hg6 : g5 + 1 = g6 at *
  clear hg5 hg6
  have W1 := lt_of_heap' hx
  have W2 := lt_of_heap' h5
  have W3 := lt_of_heap' h6
  obtain ⟨⟨p0, q0⟩, ⟨p1, q1⟩, ⟨p2, q2⟩, ⟨p3, q3⟩, ⟨p4, q4⟩, ⟨p5, q5⟩, ⟨p6, q6⟩, ⟨p7, q7⟩, ⟨p8, q8⟩, ⟨p9, q9⟩, ⟨p10, q10⟩, ⟨p11, q11⟩⟩ := c12 hx
  go_upto_region 37 with fail
  go_quiet (fail)
  go_upto_region 40 with fail
  clear p0 q0 p1 q1 p2 q2 p3 q3 p4 q4 p5 q5 p6 q6 p7 q7 p8 q8 p9 q9 p10 q10 p11 q11 W1 W2 W3
  refine cutF (w := w) (g5 := g5) (g6 := g6) (GN.drewN hgW _) hx h5 h6 fun W4 hgWn hxn h5n h6n => ?_
  clear hgW hx h5 h6 
  have hgW := hgWn
  have hx := hxn
  have h5 := h5n
  have h6 := h6n
  clear hgWn hxn h5n h6n
  have W1 := lt_of_heap' hx
  have W2 := lt_of_heap' h5
  have W3 := lt_of_heap' h6
  obtain ⟨⟨p0, q0⟩, ⟨p1, q1⟩, ⟨p2, q2⟩, ⟨p3, q3⟩, ⟨p4, q4⟩, ⟨p5, q5⟩, ⟨p6, q6⟩, ⟨p7, q7⟩, ⟨p8, q8⟩, ⟨p9, q9⟩, ⟨p10, q10⟩, ⟨p11, q11⟩⟩ := c12 hx
  go_quiet ((go_at_call 46; exact Calls.quiet_of (put_any _ _ _ (by decide) (by decide) _)))
  go_wp2
  go_ret2
  exact ⟨by rw [unhide Hz]; rfl, gnt⟩
set_option maxRecDepth 100000 in
set_option maxHeartbeats 4000000 in
theorem form_5 (rd r1 r2 r3 rm c sz i : Int) (hi : (Lit.int .i64 i).wf = true) (_hz : (Lit.int .i64 sz).wf = true) (ui : Bool) (us wd : Bool) (w : World) : Calls Try.prog 33 #[.agg #[.int .i64 5, .int .i64 rd, .int .i64 r1, .int .i64 r2, .int .i64 r3, .int .i64 rm, .int .i64 c, .int .i64 sz, .int .i64 i, .bool ui, .bool us, .bool wd]] w fun e w' => e = .returned (.tuple #[.int .u32 ((or32 (or32 (or32 (or32 (or32 (or32 (or32 (99) (0)) (putN r1 15 5)) (putN r2 20 5)) (putN (i / 2) 8 4)) (putN (i / 32) 25 6)) (putN (i / 2048) 7 1)) (putN (i / 4096) 31 1) : Nat) : Int), .bool true]) ∧ GN w w' := by
  obtain ⟨z, hz⟩ : ∃ z : Int, z = ((or32 (or32 (or32 (or32 (or32 (or32 (or32 (99) (0)) (putN r1 15 5)) (putN r2 20 5)) (putN (i / 2) 8 4)) (putN (i / 32) 25 6)) (putN (i / 2048) 7 1)) (putN (i / 4096) 31 1) : Nat) : Int) := ⟨_, rfl⟩
  rw [← hz]
  simp only [or32_cast, Int.cast_ofNat_Int] at hz
  have Hz := hide hz
  clear hz
  have hi2 := i64' hi
  go_enter Try.func33, Try.ntmps33
  go_upto_region 2 with (first | (go_at_call 21; refine (branches_ab _).mono ?_; rintro _ _ ⟨B, hB, rfl, o_, rfl⟩) | (go_at_call 38; refine (atomics_ab _).mono ?_; rintro _ _ ⟨A, hA, rfl, o_, rfl⟩) | (refine wpL_store_row rfl 38 (.tmp 4) (.tmp 12) rfl _ B rfl rfl 38 #[.int .i64 0, .int .i64 0, .int .i64 0, .int .i64 0, .int .i64 0, .int .i64 0, .int .i64 0, .int .i64 0] ?_ (info38 hB).1 (info38 hB).2.1 (info38 hB).2.2 ?_; · exact hp_alloc (hp_last (by simp))) | (refine wpL_store_row rfl 52 (.tmp 5) (.tmp 13) rfl _ A rfl rfl 52 #[.int .i64 0, .int .i64 0, .int .i64 0, .int .i64 0, .int .i64 0, .int .i64 0, .int .i64 0, .int .i64 0, .int .i64 0, .int .i64 0, .int .i64 0, .int .i64 0, .int .i64 0, .int .i64 0, .int .i64 0, .int .i64 0, .int .i64 0, .int .i64 0, .int .i64 0, .int .i64 0, .int .i64 0, .int .i64 0, .int .i64 0, .int .i64 0, .int .i64 0, .int .i64 0, .int .i64 0, .int .i64 0, .int .i64 0, .int .i64 0, .int .i64 0, .int .i64 0] ?_ (info52 hA).1 (info52 hA).2.1 (info52 hA).2.2 ?_; · exact row_ne (by omega) (hp_last (by simp))))
  with_reducible refine form_start fun W hgW hx h5 h6 => ?_
  generalize hg5 : w.heap.size + 1 + 1 + 1 = g5 at *
  generalize hg6 : g5 + 1 = g6 at *
  clear hg5 hg6
  have W1 := lt_of_heap' hx
  have W2 := lt_of_heap' h5
  have W3 := lt_of_heap' h6
  obtain ⟨⟨p0, q0⟩, ⟨p1, q1⟩, ⟨p2, q2⟩, ⟨p3, q3⟩, ⟨p4, q4⟩, ⟨p5, q5⟩, ⟨p6, q6⟩, ⟨p7, q7⟩, ⟨p8, q8⟩, ⟨p9, q9⟩, ⟨p10, q10⟩, ⟨p11, q11⟩⟩ := c12 hx
  have hf : placeN brL 5 = 0 := by decide
  go_upto_region 41 with fail
  have C5 := hide (cells_of (l := brL) (unhide hB) h5)
  go_quiet ((go_at_call 52; exact Calls.quiet_of (place_any brL 5 g5 8 rfl (by decide) _ (unhide C5))))
  clear C5
  go_upto_region 43 with fail
  clear p0 q0 p1 q1 p2 q2 p3 q3 p4 q4 p5 q5 p6 q6 p7 q7 p8 q8 p9 q9 p10 q10 p11 q11 W1 W2 W3
  refine cutF (w := w) (g5 := g5) (g6 := g6) (GN.drewN hgW _) hx h5 h6 fun W4 hgWn hxn h5n h6n => ?_
  clear hgW hx h5 h6 
  have hgW := hgWn
  have hx := hxn
  have h5 := h5n
  have h6 := h6n
  clear hgWn hxn h5n h6n
  have W1 := lt_of_heap' hx
  have W2 := lt_of_heap' h5
  have W3 := lt_of_heap' h6
  obtain ⟨⟨p0, q0⟩, ⟨p1, q1⟩, ⟨p2, q2⟩, ⟨p3, q3⟩, ⟨p4, q4⟩, ⟨p5, q5⟩, ⟨p6, q6⟩, ⟨p7, q7⟩, ⟨p8, q8⟩, ⟨p9, q9⟩, ⟨p10, q10⟩, ⟨p11, q11⟩⟩ := c12 hx
  go_quiet ((go_at_call 46; exact Calls.quiet_of (put_any _ _ _ (by decide) (by decide) _)))
  go_wp2
  go_ret2
  exact ⟨by rw [unhide Hz]; rfl, gnt⟩
set_option maxRecDepth 100000 in
set_option maxHeartbeats 4000000 in
theorem form_9 (rd r1 r2 r3 rm c sz i : Int) (hi : (Lit.int .i64 i).wf = true) (_hz : (Lit.int .i64 sz).wf = true) (ui : Bool) (us wd : Bool) (w : World) : Calls Try.prog 33 #[.agg #[.int .i64 9, .int .i64 rd, .int .i64 r1, .int .i64 r2, .int .i64 r3, .int .i64 rm, .int .i64 c, .int .i64 sz, .int .i64 i, .bool ui, .bool us, .bool wd]] w fun e w' => e = .returned (.tuple #[.int .u32 ((or32 (or32 (or32 (or32 (or32 (or32 (or32 (99) (24576)) (putN r1 15 5)) (putN r2 20 5)) (putN (i / 2) 8 4)) (putN (i / 32) 25 6)) (putN (i / 2048) 7 1)) (putN (i / 4096) 31 1) : Nat) : Int), .bool true]) ∧ GN w w' := by
  obtain ⟨z, hz⟩ : ∃ z : Int, z = ((or32 (or32 (or32 (or32 (or32 (or32 (or32 (99) (24576)) (putN r1 15 5)) (putN r2 20 5)) (putN (i / 2) 8 4)) (putN (i / 32) 25 6)) (putN (i / 2048) 7 1)) (putN (i / 4096) 31 1) : Nat) : Int) := ⟨_, rfl⟩
  rw [← hz]
  simp only [or32_cast, Int.cast_ofNat_Int] at hz
  have Hz := hide hz
  clear hz
  have hi2 := i64' hi
  go_enter Try.func33, Try.ntmps33
  go_upto_region 2 with (first | (go_at_call 21; refine (branches_ab _).mono ?_; rintro _ _ ⟨B, hB, rfl, o_, rfl⟩) | (go_at_call 38; refine (atomics_ab _).mono ?_; rintro _ _ ⟨A, hA, rfl, o_, rfl⟩) | (refine wpL_store_row rfl 38 (.tmp 4) (.tmp 12) rfl _ B rfl rfl 38 #[.int .i64 0, .int .i64 0, .int .i64 0, .int .i64 0, .int .i64 0, .int .i64 0, .int .i64 0, .int .i64 0] ?_ (info38 hB).1 (info38 hB).2.1 (info38 hB).2.2 ?_; · exact hp_alloc (hp_last (by simp))) | (refine wpL_store_row rfl 52 (.tmp 5) (.tmp 13) rfl _ A rfl rfl 52 #[.int .i64 0, .int .i64 0, .int .i64 0, .int .i64 0, .int .i64 0, .int .i64 0, .int .i64 0, .int .i64 0, .int .i64 0, .int .i64 0, .int .i64 0, .int .i64 0, .int .i64 0, .int .i64 0, .int .i64 0, .int .i64 0, .int .i64 0, .int .i64 0, .int .i64 0, .int .i64 0, .int .i64 0, .int .i64 0, .int .i64 0, .int .i64 0, .int .i64 0, .int .i64 0, .int .i64 0, .int .i64 0, .int .i64 0, .int .i64 0, .int .i64 0, .int .i64 0] ?_ (info52 hA).1 (info52 hA).2.1 (info52 hA).2.2 ?_; · exact row_ne (by omega) (hp_last (by simp))))
  with_reducible refine form_start fun W hgW hx h5 h6 => ?_
  generalize hg5 : w.heap.size + 1 + 1 + 1 = g5 at *
  generalize hg6 : g5 + 1 = g6 at *
  clear hg5 hg6
  have W1 := lt_of_heap' hx
  have W2 := lt_of_heap' h5
  have W3 := lt_of_heap' h6
  obtain ⟨⟨p0, q0⟩, ⟨p1, q1⟩, ⟨p2, q2⟩, ⟨p3, q3⟩, ⟨p4, q4⟩, ⟨p5, q5⟩, ⟨p6, q6⟩, ⟨p7, q7⟩, ⟨p8, q8⟩, ⟨p9, q9⟩, ⟨p10, q10⟩, ⟨p11, q11⟩⟩ := c12 hx
  have hf : placeN brL 9 = 6 := by decide
  go_upto_region 41 with fail
  have C5 := hide (cells_of (l := brL) (unhide hB) h5)
  go_quiet ((go_at_call 52; exact Calls.quiet_of (place_any brL 9 g5 8 rfl (by decide) _ (unhide C5))))
  clear C5
  go_upto_region 43 with fail
  clear p0 q0 p1 q1 p2 q2 p3 q3 p4 q4 p5 q5 p6 q6 p7 q7 p8 q8 p9 q9 p10 q10 p11 q11 W1 W2 W3
  refine cutF (w := w) (g5 := g5) (g6 := g6) (GN.drewN hgW _) hx h5 h6 fun W4 hgWn hxn h5n h6n => ?_
  clear hgW hx h5 h6 
  have hgW := hgWn
  have hx := hxn
  have h5 := h5n
  have h6 := h6n
  clear hgWn hxn h5n h6n
  have W1 := lt_of_heap' hx
  have W2 := lt_of_heap' h5
  have W3 := lt_of_heap' h6
  obtain ⟨⟨p0, q0⟩, ⟨p1, q1⟩, ⟨p2, q2⟩, ⟨p3, q3⟩, ⟨p4, q4⟩, ⟨p5, q5⟩, ⟨p6, q6⟩, ⟨p7, q7⟩, ⟨p8, q8⟩, ⟨p9, q9⟩, ⟨p10, q10⟩, ⟨p11, q11⟩⟩ := c12 hx
  go_quiet ((go_at_call 46; exact Calls.quiet_of (put_any _ _ _ (by decide) (by decide) _)))
  go_wp2
  go_ret2
  exact ⟨by rw [unhide Hz]; rfl, gnt⟩
end Go.Proofs.Ytopbdiekfhikmaa
namespace Go.Proofs.Ytopbdiekfhikmaa
open Go.RowKit
set_option maxRecDepth 100000 in
set_option maxHeartbeats 4000000 in
theorem form_4 (rd r1 r2 r3 rm c sz i : Int) (hi : (Lit.int .i64 i).wf = true) (_hz : (Lit.int .i64 sz).wf = true) (ui : Bool) (us wd : Bool) (w : World) : Calls Try.prog 33 #[.agg #[.int .i64 4, .int .i64 rd, .int .i64 r1, .int .i64 r2, .int .i64 r3, .int .i64 rm, .int .i64 c, .int .i64 sz, .int .i64 i, .bool ui, .bool us, .bool wd]] w fun e w' => e = .returned (.tuple #[.int .u32 ((or32 (103) (iN rd r1 i) : Nat) : Int), .bool true]) ∧ GN w w' := by
  obtain ⟨z, hz⟩ : ∃ z : Int, z = ((or32 (103) (iN rd r1 i) : Nat) : Int) := ⟨_, rfl⟩
  rw [← hz]
  simp only [or32_cast, Int.cast_ofNat_Int] at hz
  have Hz := hide hz
  clear hz
  go_enter Try.func33, Try.ntmps33
  go_upto_region 2 with (first | (go_at_call 21; refine (branches_ab _).mono ?_; rintro _ _ ⟨B, hB, rfl, o_, rfl⟩) | (go_at_call 38; refine (atomics_ab _).mono ?_; rintro _ _ ⟨A, hA, rfl, o_, rfl⟩) | (refine wpL_store_row rfl 38 (.tmp 4) (.tmp 12) rfl _ B rfl rfl 38 #[.int .i64 0, .int .i64 0, .int .i64 0, .int .i64 0, .int .i64 0, .int .i64 0, .int .i64 0, .int .i64 0] ?_ (info38 hB).1 (info38 hB).2.1 (info38 hB).2.2 ?_; · exact hp_alloc (hp_last (by simp))) | (refine wpL_store_row rfl 52 (.tmp 5) (.tmp 13) rfl _ A rfl rfl 52 #[.int .i64 0, .int .i64 0, .int .i64 0, .int .i64 0, .int .i64 0, .int .i64 0, .int .i64 0, .int .i64 0, .int .i64 0, .int .i64 0, .int .i64 0, .int .i64 0, .int .i64 0, .int .i64 0, .int .i64 0, .int .i64 0, .int .i64 0, .int .i64 0, .int .i64 0, .int .i64 0, .int .i64 0, .int .i64 0, .int .i64 0, .int .i64 0, .int .i64 0, .int .i64 0, .int .i64 0, .int .i64 0, .int .i64 0, .int .i64 0, .int .i64 0, .int .i64 0] ?_ (info52 hA).1 (info52 hA).2.1 (info52 hA).2.2 ?_; · exact row_ne (by omega) (hp_last (by simp))))
  with_reducible refine form_start fun W hgW hx h5 h6 => ?_
  generalize hg5 : w.heap.size + 1 + 1 + 1 = g5 at *
  generalize hg6 : g5 + 1 = g6 at *
  clear hg5 hg6
  have W1 := lt_of_heap' hx
  have W2 := lt_of_heap' h5
  have W3 := lt_of_heap' h6
  obtain ⟨⟨p0, q0⟩, ⟨p1, q1⟩, ⟨p2, q2⟩, ⟨p3, q3⟩, ⟨p4, q4⟩, ⟨p5, q5⟩, ⟨p6, q6⟩, ⟨p7, q7⟩, ⟨p8, q8⟩, ⟨p9, q9⟩, ⟨p10, q10⟩, ⟨p11, q11⟩⟩ := c12 hx
  go_wp2_with (go_at_call 47; refine (i_any _ _ _ _ _ _ _ _ _ (by assumption) _ _ _ _).mono ?_; rintro _ w2 ⟨rfl, hq⟩)
  have hgn : GN w w2 := GN.trans gnt hq
  go_ret2
  exact ⟨by rw [unhide Hz]; rfl, gnt⟩
set_option maxRecDepth 100000 in
set_option maxHeartbeats 4000000 in
theorem form_54 (rd r1 r2 r3 rm c sz i : Int) (hi : (Lit.int .i64 i).wf = true) (hz : (Lit.int .i64 sz).wf = true) (ui : Bool) (us wd : Bool) (w : World) : Calls Try.prog 33 #[.agg #[.int .i64 54, .int .i64 rd, .int .i64 r1, .int .i64 r2, .int .i64 r3, .int .i64 rm, .int .i64 c, .int .i64 sz, .int .i64 i, .bool ui, .bool us, .bool wd]] w fun e w' => e = .returned (.tuple #[.int .u32 ((or32 (or32 (39) (logN sz * 4096 % 4294967296)) (sN r1 r2 i) : Nat) : Int), .bool true]) ∧ GN w w' := by
  obtain ⟨hs1, hs2⟩ := i64' hz
  go_enter Try.func33, Try.ntmps33
  go_upto_region 2 with (first | (go_at_call 21; refine (branches_ab _).mono ?_; rintro _ _ ⟨B, hB, rfl, o_, rfl⟩) | (go_at_call 38; refine (atomics_ab _).mono ?_; rintro _ _ ⟨A, hA, rfl, o_, rfl⟩) | (refine wpL_store_row rfl 38 (.tmp 4) (.tmp 12) rfl _ B rfl rfl 38 #[.int .i64 0, .int .i64 0, .int .i64 0, .int .i64 0, .int .i64 0, .int .i64 0, .int .i64 0, .int .i64 0] ?_ (info38 hB).1 (info38 hB).2.1 (info38 hB).2.2 ?_; · exact hp_alloc (hp_last (by simp))) | (refine wpL_store_row rfl 52 (.tmp 5) (.tmp 13) rfl _ A rfl rfl 52 #[.int .i64 0, .int .i64 0, .int .i64 0, .int .i64 0, .int .i64 0, .int .i64 0, .int .i64 0, .int .i64 0, .int .i64 0, .int .i64 0, .int .i64 0, .int .i64 0, .int .i64 0, .int .i64 0, .int .i64 0, .int .i64 0, .int .i64 0, .int .i64 0, .int .i64 0, .int .i64 0, .int .i64 0, .int .i64 0, .int .i64 0, .int .i64 0, .int .i64 0, .int .i64 0, .int .i64 0, .int .i64 0, .int .i64 0, .int .i64 0, .int .i64 0, .int .i64 0] ?_ (info52 hA).1 (info52 hA).2.1 (info52 hA).2.2 ?_; · exact row_ne (by omega) (hp_last (by simp))))
  with_reducible refine form_start fun W hgW hx h5 h6 => ?_
  generalize hg5 : w.heap.size + 1 + 1 + 1 = g5 at *
  generalize hg6 : g5 + 1 = g6 at *
  clear hg5 hg6
  have W1 := lt_of_heap' hx
  have W2 := lt_of_heap' h5
  have W3 := lt_of_heap' h6
  obtain ⟨⟨p0, q0⟩, ⟨p1, q1⟩, ⟨p2, q2⟩, ⟨p3, q3⟩, ⟨p4, q4⟩, ⟨p5, q5⟩, ⟨p6, q6⟩, ⟨p7, q7⟩, ⟨p8, q8⟩, ⟨p9, q9⟩, ⟨p10, q10⟩, ⟨p11, q11⟩⟩ := c12 hx
  go_upto_region 18 with fail
  clear p0 q0 p1 q1 p2 q2 p3 q3 p4 q4 p5 q5 p6 q6 p7 q7 p8 q8 p9 q9 p10 q10 p11 q11
  refine wp_region_F (fun w_ => GN W w_) GN (fun k_ v_ w_ => match k_ with
      | 0 => v_ = .pointer (some ⟨w.heap.size, 7, none⟩)
      | 1 => v_ = .int .i64 sz
      | 2 => v_ = .int .u32 ((logN sz : Nat) : Int)
      | 3 => v_ = .int .u32 ((logN sz * 4096 % 4294967296 : Nat) : Int)
      | 4 => v_ = .int .u32 ((or32 (39) (logN sz * 4096 % 4294967296) : Nat) : Int)
      | 5 => v_ = .agg #[.int .i64 54, .int .i64 rd, .int .i64 r1, .int .i64 r2, .int .i64 r3, .int .i64 rm, .int .i64 c, .int .i64 sz, .int .i64 i, .bool ui, .bool us, .bool wd]
      | 6 => v_ = .int .u32 ((sN r1 r2 i : Nat) : Int)
      | 7 => v_ = .int .u32 ((or32 (or32 (39) (logN sz * 4096 % 4294967296)) (sN r1 r2 i) : Nat) : Int)
      | 8 => v_ = .int .u32 ((or32 (or32 (39) (logN sz * 4096 % 4294967296)) (sN r1 r2 i) : Nat) : Int)
      | _ => v_ = .bool true) fol (by kernel_rfl) ?_ ?_ ?_ ?_
  · exact (GN.refl W).drew
  · intro k_ v_ w_ w2_ h1 hg
    split at h1 <;> exact h1
  · intro vals
    show wpG _ _ _ _ _ _ 0 (_ :: _) _
    refine wpG_cons (gval (.pointer (some ⟨w.heap.size, 7, none⟩)) GN.refl fun w_ hJ hd => ?_) ?_
    · exact ⟨by kernel_rfl, by kernel_rfl, rfl⟩
    refine wpG_cons (gop (Instr.loadAt 3 (.pointer (some ⟨w.heap.size, 7, none⟩))) (.int .i64 sz) GN.refl fun w_ hJ hd => ?_) ?_
    · have e0 : vals 0 = _ := hd 0 (by decide) (by kernel_rfl)
      rw [e0]
      exact ⟨by kernel_rfl, by kernel_rfl, run_load1 (by kernel_rfl) (c12 (GN.heap hJ hx)).2.2.2.2.2.2.2.1.1, rfl⟩
    refine wpG_cons (gcall 48 #[.int .i64 sz] fun w_ hJ hd => ?_) ?_
    · have e1 : vals 1 = _ := hd 1 (by decide) (by kernel_rfl)
      rw [e1]
      exact ⟨by kernel_rfl, by kernel_rfl, (log_any sz hs1 hs2 w_).mono fun e w2 ⟨he, m, hw⟩ => ⟨_, he, by subst hw; exact hJ.drewN _, by subst hw; exact (GN.refl w_).drewN _, rfl⟩⟩
    refine wpG_cons (gop (binOp .shl 22 (.int .u32 ((logN sz : Nat) : Int)) (.int .u64 12)) (.int .u32 ((logN sz * 4096 % 4294967296 : Nat) : Int)) GN.refl fun w_ hJ hd => ?_) ?_
    · have e2 : vals 2 = _ := hd 2 (by decide) (by kernel_rfl)
      rw [e2]
      exact ⟨by kernel_rfl, by kernel_rfl, shl12 (logN sz) w_, rfl⟩
    refine wpG_cons (gop (binOp .or 22 (.int .u32 39) (.int .u32 ((logN sz * 4096 % 4294967296 : Nat) : Int))) (.int .u32 ((or32 (39) (logN sz * 4096 % 4294967296) : Nat) : Int)) GN.refl fun w_ hJ hd => ?_) ?_
    · have e3 : vals 3 = _ := hd 3 (by decide) (by kernel_rfl)
      rw [e3]
      exact ⟨by kernel_rfl, by kernel_rfl, or_run 39 (logN sz * 4096 % 4294967296) w_, rfl⟩
    refine wpG_cons (gop (Instr.loadAt 25 (.pointer (some ⟨w.heap.size, 0, none⟩))) (.agg #[.int .i64 54, .int .i64 rd, .int .i64 r1, .int .i64 r2, .int .i64 r3, .int .i64 rm, .int .i64 c, .int .i64 sz, .int .i64 i, .bool ui, .bool us, .bool wd]) GN.refl fun w_ hJ hd => ?_) ?_
    · exact ⟨by kernel_rfl, by kernel_rfl, run_loadRow (GN.heap hJ hx), rfl⟩
    refine wpG_cons (gcall 50 #[.agg #[.int .i64 54, .int .i64 rd, .int .i64 r1, .int .i64 r2, .int .i64 r3, .int .i64 rm, .int .i64 c, .int .i64 sz, .int .i64 i, .bool ui, .bool us, .bool wd]] fun w_ hJ hd => ?_) ?_
    · have e5 : vals 5 = _ := hd 5 (by decide) (by kernel_rfl)
      rw [e5]
      exact ⟨by kernel_rfl, by kernel_rfl, (s_any _ _ _ _ _ _ _ _ _ hi _ _ _ w_).mono fun e w2 ⟨he, hq⟩ => ⟨_, he, GN.trans hJ hq, hq, rfl⟩⟩
    refine wpG_cons (gop (binOp .or 22 (.int .u32 ((or32 (39) (logN sz * 4096 % 4294967296) : Nat) : Int)) (.int .u32 ((sN r1 r2 i : Nat) : Int))) (.int .u32 ((or32 (or32 (39) (logN sz * 4096 % 4294967296)) (sN r1 r2 i) : Nat) : Int)) GN.refl fun w_ hJ hd => ?_) ?_
    · have e4 : vals 4 = _ := hd 4 (by decide) (by kernel_rfl)
      have e6 : vals 6 = _ := hd 6 (by decide) (by kernel_rfl)
      rw [e4, e6]
      exact ⟨by kernel_rfl, by kernel_rfl, or_run _ _ w_, rfl⟩
    refine wpG_cons (gval (.int .u32 ((or32 (or32 (39) (logN sz * 4096 % 4294967296)) (sN r1 r2 i) : Nat) : Int)) GN.refl fun w_ hJ hd => ?_) ?_
    · have e7 : vals 7 = _ := hd 7 (by decide) (by kernel_rfl)
      rw [e7]
      exact ⟨by kernel_rfl, by kernel_rfl, rfl⟩
    refine wpG_cons (gval (.bool true) GN.refl fun w_ hJ hd => ?_) wpG_nil
    · exact ⟨by kernel_rfl, by kernel_rfl, rfl⟩
  intro vals w_ hJ hf
  have e0 : vals 0 = _ := hf 0 (by decide)
  have e1 : vals 1 = _ := hf 1 (by decide)
  have e2 : vals 2 = _ := hf 2 (by decide)
  have e3 : vals 3 = _ := hf 3 (by decide)
  have e4 : vals 4 = _ := hf 4 (by decide)
  have e5 : vals 5 = _ := hf 5 (by decide)
  have e6 : vals 6 = _ := hf 6 (by decide)
  have e7 : vals 7 = _ := hf 7 (by decide)
  have e8 : vals 8 = _ := hf 8 (by decide)
  have e9 : vals 9 = _ := hf 9 (by decide)
  simp only [fillG, Nat.zero_add, Nat.reduceAdd, e0, e1, e2, e3, e4, e5, e6, e7, e8, e9, Act.put, List.setIfInBounds_toArray, List.set_cons_succ, List.set_cons_zero]
  clear e0 e1 e2 e3 e4 e5 e6 e7 e8 e9 hf
  have hgn := GN.trans hgW hJ
  go_wp2
  go_ret2
  exact ⟨rfl, gnt⟩
set_option maxRecDepth 100000 in
set_option maxHeartbeats 4000000 in
theorem form_34 (rd r1 r2 r3 rm c sz i : Int) (_hi : (Lit.int .i64 i).wf = true) (_hz : (Lit.int .i64 sz).wf = true) (ui : Bool) (us wd : Bool) (w : World) : Calls Try.prog 33 #[.agg #[.int .i64 34, .int .i64 rd, .int .i64 r1, .int .i64 r2, .int .i64 r3, .int .i64 rm, .int .i64 c, .int .i64 sz, .int .i64 i, .bool ui, .bool us, .bool wd]] w fun e w' => e = .returned (.tuple #[.int .u32 ((1048691 : Nat) : Int), .bool true]) ∧ GN w w' := by
  obtain ⟨z, hz⟩ : ∃ z : Int, z = ((1048691 : Nat) : Int) := ⟨_, rfl⟩
  rw [← hz]
  simp only [Int.cast_ofNat_Int] at hz
  have Hz := hide hz
  clear hz
  go_enter Try.func33, Try.ntmps33
  go_upto_region 2 with (first | (go_at_call 21; refine (branches_ab _).mono ?_; rintro _ _ ⟨B, hB, rfl, o_, rfl⟩) | (go_at_call 38; refine (atomics_ab _).mono ?_; rintro _ _ ⟨A, hA, rfl, o_, rfl⟩) | (refine wpL_store_row rfl 38 (.tmp 4) (.tmp 12) rfl _ B rfl rfl 38 #[.int .i64 0, .int .i64 0, .int .i64 0, .int .i64 0, .int .i64 0, .int .i64 0, .int .i64 0, .int .i64 0] ?_ (info38 hB).1 (info38 hB).2.1 (info38 hB).2.2 ?_; · exact hp_alloc (hp_last (by simp))) | (refine wpL_store_row rfl 52 (.tmp 5) (.tmp 13) rfl _ A rfl rfl 52 #[.int .i64 0, .int .i64 0, .int .i64 0, .int .i64 0, .int .i64 0, .int .i64 0, .int .i64 0, .int .i64 0, .int .i64 0, .int .i64 0, .int .i64 0, .int .i64 0, .int .i64 0, .int .i64 0, .int .i64 0, .int .i64 0, .int .i64 0, .int .i64 0, .int .i64 0, .int .i64 0, .int .i64 0, .int .i64 0, .int .i64 0, .int .i64 0, .int .i64 0, .int .i64 0, .int .i64 0, .int .i64 0, .int .i64 0, .int .i64 0, .int .i64 0, .int .i64 0] ?_ (info52 hA).1 (info52 hA).2.1 (info52 hA).2.2 ?_; · exact row_ne (by omega) (hp_last (by simp))))
  with_reducible refine form_start fun W hgW hx h5 h6 => ?_
  generalize hg5 : w.heap.size + 1 + 1 + 1 = g5 at *
  generalize hg6 : g5 + 1 = g6 at *
  clear hg5 hg6
  have W1 := lt_of_heap' hx
  have W2 := lt_of_heap' h5
  have W3 := lt_of_heap' h6
  obtain ⟨⟨p0, q0⟩, ⟨p1, q1⟩, ⟨p2, q2⟩, ⟨p3, q3⟩, ⟨p4, q4⟩, ⟨p5, q5⟩, ⟨p6, q6⟩, ⟨p7, q7⟩, ⟨p8, q8⟩, ⟨p9, q9⟩, ⟨p10, q10⟩, ⟨p11, q11⟩⟩ := c12 hx
  go_wp2
  go_ret2
  exact ⟨by rw [unhide Hz]; rfl, gnt⟩
set_option maxRecDepth 100000 in
set_option maxHeartbeats 4000000 in
theorem form_52 (rd r1 r2 r3 rm c sz i : Int) (hi : (Lit.int .i64 i).wf = true) (_hz : (Lit.int .i64 sz).wf = true) (ui : Bool) (us wd : Bool) (w : World) : Calls Try.prog 33 #[.agg #[.int .i64 52, .int .i64 rd, .int .i64 r1, .int .i64 r2, .int .i64 r3, .int .i64 rm, .int .i64 c, .int .i64 sz, .int .i64 i, .bool ui, .bool us, .bool wd]] w fun e w' => e = .returned (.tuple #[.int .u32 ((or32 (301990003) (rN rd r1 r2) : Nat) : Int), .bool true]) ∧ GN w w' := by
  obtain ⟨z, hz⟩ : ∃ z : Int, z = ((or32 (301990003) (rN rd r1 r2) : Nat) : Int) := ⟨_, rfl⟩
  rw [← hz]
  simp only [or32_cast, Int.cast_ofNat_Int] at hz
  have Hz := hide hz
  clear hz
  go_enter Try.func33, Try.ntmps33
  go_upto_region 2 with (first | (go_at_call 21; refine (branches_ab _).mono ?_; rintro _ _ ⟨B, hB, rfl, o_, rfl⟩) | (go_at_call 38; refine (atomics_ab _).mono ?_; rintro _ _ ⟨A, hA, rfl, o_, rfl⟩) | (refine wpL_store_row rfl 38 (.tmp 4) (.tmp 12) rfl _ B rfl rfl 38 #[.int .i64 0, .int .i64 0, .int .i64 0, .int .i64 0, .int .i64 0, .int .i64 0, .int .i64 0, .int .i64 0] ?_ (info38 hB).1 (info38 hB).2.1 (info38 hB).2.2 ?_; · exact hp_alloc (hp_last (by simp))) | (refine wpL_store_row rfl 52 (.tmp 5) (.tmp 13) rfl _ A rfl rfl 52 #[.int .i64 0, .int .i64 0, .int .i64 0, .int .i64 0, .int .i64 0, .int .i64 0, .int .i64 0, .int .i64 0, .int .i64 0, .int .i64 0, .int .i64 0, .int .i64 0, .int .i64 0, .int .i64 0, .int .i64 0, .int .i64 0, .int .i64 0, .int .i64 0, .int .i64 0, .int .i64 0, .int .i64 0, .int .i64 0, .int .i64 0, .int .i64 0, .int .i64 0, .int .i64 0, .int .i64 0, .int .i64 0, .int .i64 0, .int .i64 0, .int .i64 0, .int .i64 0] ?_ (info52 hA).1 (info52 hA).2.1 (info52 hA).2.2 ?_; · exact row_ne (by omega) (hp_last (by simp))))
  with_reducible refine form_start fun W hgW hx h5 h6 => ?_
  generalize hg5 : w.heap.size + 1 + 1 + 1 = g5 at *
  generalize hg6 : g5 + 1 = g6 at *
  clear hg5 hg6
  have W1 := lt_of_heap' hx
  have W2 := lt_of_heap' h5
  have W3 := lt_of_heap' h6
  obtain ⟨⟨p0, q0⟩, ⟨p1, q1⟩, ⟨p2, q2⟩, ⟨p3, q3⟩, ⟨p4, q4⟩, ⟨p5, q5⟩, ⟨p6, q6⟩, ⟨p7, q7⟩, ⟨p8, q8⟩, ⟨p9, q9⟩, ⟨p10, q10⟩, ⟨p11, q11⟩⟩ := c12 hx
  go_wp2_with (go_at_call 51; refine (r_any _ _ _ _ _ _ _ _ _ (by assumption) _ _ _ _).mono ?_; rintro _ w2 ⟨rfl, hq⟩)
  have hgn : GN w w2 := GN.trans gnt hq
  go_ret2
  exact ⟨by rw [unhide Hz]; rfl, gnt⟩
set_option maxRecDepth 100000 in
set_option maxHeartbeats 4000000 in
theorem form_36t (rd r1 r2 r3 rm c sz i : Int) (_hi : (Lit.int .i64 i).wf = true) (_hz : (Lit.int .i64 sz).wf = true) (us wd : Bool) (w : World) : Calls Try.prog 33 #[.agg #[.int .i64 36, .int .i64 rd, .int .i64 r1, .int .i64 r2, .int .i64 r3, .int .i64 rm, .int .i64 c, .int .i64 sz, .int .i64 i, .bool true, .bool us, .bool wd]] w fun e w' => e = .returned (.tuple #[.int .u32 ((or32 (or32 (or32 (or32 (115) (24576)) (putN rd 7 5)) (putN i 15 5)) (putN c 20 12) : Nat) : Int), .bool true]) ∧ GN w w' := by
  obtain ⟨z, hz⟩ : ∃ z : Int, z = ((or32 (or32 (or32 (or32 (115) (24576)) (putN rd 7 5)) (putN i 15 5)) (putN c 20 12) : Nat) : Int) := ⟨_, rfl⟩
  rw [← hz]
  simp only [or32_cast, Int.cast_ofNat_Int] at hz
  have Hz := hide hz
  clear hz
  go_enter Try.func33, Try.ntmps33
  go_upto_region 2 with (first | (go_at_call 21; refine (branches_ab _).mono ?_; rintro _ _ ⟨B, hB, rfl, o_, rfl⟩) | (go_at_call 38; refine (atomics_ab _).mono ?_; rintro _ _ ⟨A, hA, rfl, o_, rfl⟩) | (refine wpL_store_row rfl 38 (.tmp 4) (.tmp 12) rfl _ B rfl rfl 38 #[.int .i64 0, .int .i64 0, .int .i64 0, .int .i64 0, .int .i64 0, .int .i64 0, .int .i64 0, .int .i64 0] ?_ (info38 hB).1 (info38 hB).2.1 (info38 hB).2.2 ?_; · exact hp_alloc (hp_last (by simp))) | (refine wpL_store_row rfl 52 (.tmp 5) (.tmp 13) rfl _ A rfl rfl 52 #[.int .i64 0, .int .i64 0, .int .i64 0, .int .i64 0, .int .i64 0, .int .i64 0, .int .i64 0, .int .i64 0, .int .i64 0, .int .i64 0, .int .i64 0, .int .i64 0, .int .i64 0, .int .i64 0, .int .i64 0, .int .i64 0, .int .i64 0, .int .i64 0, .int .i64 0, .int .i64 0, .int .i64 0, .int .i64 0, .int .i64 0, .int .i64 0, .int .i64 0, .int .i64 0, .int .i64 0, .int .i64 0, .int .i64 0, .int .i64 0, .int .i64 0, .int .i64 0] ?_ (info52 hA).1 (info52 hA).2.1 (info52 hA).2.2 ?_; · exact row_ne (by omega) (hp_last (by simp))))
  with_reducible refine form_start fun W hgW hx h5 h6 => ?_
  generalize hg5 : w.heap.size + 1 + 1 + 1 = g5 at *
  generalize hg6 : g5 + 1 = g6 at *
  clear hg5 hg6
  have W1 := lt_of_heap' hx
  have W2 := lt_of_heap' h5
  have W3 := lt_of_heap' h6
  obtain ⟨⟨p0, q0⟩, ⟨p1, q1⟩, ⟨p2, q2⟩, ⟨p3, q3⟩, ⟨p4, q4⟩, ⟨p5, q5⟩, ⟨p6, q6⟩, ⟨p7, q7⟩, ⟨p8, q8⟩, ⟨p9, q9⟩, ⟨p10, q10⟩, ⟨p11, q11⟩⟩ := c12 hx
  go_upto_region 37 with fail
  go_quiet (fail)
  go_upto_region 39 with fail
  clear p0 q0 p1 q1 p2 q2 p3 q3 p4 q4 p5 q5 p6 q6 p7 q7 p8 q8 p9 q9 p10 q10 p11 q11 W1 W2 W3
  refine cutF (w := w) (g5 := g5) (g6 := g6) (GN.drewN hgW _) hx h5 h6 fun W4 hgWn hxn h5n h6n => ?_
  clear hgW hx h5 h6 
  have hgW := hgWn
  have hx := hxn
  have h5 := h5n
  have h6 := h6n
  clear hgWn hxn h5n h6n
  have W1 := lt_of_heap' hx
  have W2 := lt_of_heap' h5
  have W3 := lt_of_heap' h6
  obtain ⟨⟨p0, q0⟩, ⟨p1, q1⟩, ⟨p2, q2⟩, ⟨p3, q3⟩, ⟨p4, q4⟩, ⟨p5, q5⟩, ⟨p6, q6⟩, ⟨p7, q7⟩, ⟨p8, q8⟩, ⟨p9, q9⟩, ⟨p10, q10⟩, ⟨p11, q11⟩⟩ := c12 hx
  go_quiet (fail)
  go_upto_region 40 with fail
  clear p0 q0 p1 q1 p2 q2 p3 q3 p4 q4 p5 q5 p6 q6 p7 q7 p8 q8 p9 q9 p10 q10 p11 q11 W1 W2 W3
  refine cutF (w := w) (g5 := g5) (g6 := g6) (GN.drewN hgW _) hx h5 h6 fun W5 hgWn hxn h5n h6n => ?_
  clear hgW hx h5 h6 
  have hgW := hgWn
  have hx := hxn
  have h5 := h5n
  have h6 := h6n
  clear hgWn hxn h5n h6n
  have W1 := lt_of_heap' hx
  have W2 := lt_of_heap' h5
  have W3 := lt_of_heap' h6
  obtain ⟨⟨p0, q0⟩, ⟨p1, q1⟩, ⟨p2, q2⟩, ⟨p3, q3⟩, ⟨p4, q4⟩, ⟨p5, q5⟩, ⟨p6, q6⟩, ⟨p7, q7⟩, ⟨p8, q8⟩, ⟨p9, q9⟩, ⟨p10, q10⟩, ⟨p11, q11⟩⟩ := c12 hx
  go_quiet ((go_at_call 46; exact Calls.quiet_of (put_any _ _ _ (by decide) (by decide) _)))
  go_wp2
  go_ret2
  exact ⟨by rw [unhide Hz]; rfl, gnt⟩
set_option maxRecDepth 100000 in
set_option maxHeartbeats 4000000 in
theorem form_6 (rd r1 r2 r3 rm c sz i : Int) (hi : (Lit.int .i64 i).wf = true) (_hz : (Lit.int .i64 sz).wf = true) (ui : Bool) (us wd : Bool) (w : World) : Calls Try.prog 33 #[.agg #[.int .i64 6, .int .i64 rd, .int .i64 r1, .int .i64 r2, .int .i64 r3, .int .i64 rm, .int .i64 c, .int .i64 sz, .int .i64 i, .bool ui, .bool us, .bool wd]] w fun e w' => e = .returned (.tuple #[.int .u32 ((or32 (or32 (or32 (or32 (or32 (or32 (or32 (99) (4096)) (putN r1 15 5)) (putN r2 20 5)) (putN (i / 2) 8 4)) (putN (i / 32) 25 6)) (putN (i / 2048) 7 1)) (putN (i / 4096) 31 1) : Nat) : Int), .bool true]) ∧ GN w w' := by
  obtain ⟨z, hz⟩ : ∃ z : Int, z = ((or32 (or32 (or32 (or32 (or32 (or32 (or32 (99) (4096)) (putN r1 15 5)) (putN r2 20 5)) (putN (i / 2) 8 4)) (putN (i / 32) 25 6)) (putN (i / 2048) 7 1)) (putN (i / 4096) 31 1) : Nat) : Int) := ⟨_, rfl⟩
  rw [← hz]
  simp only [or32_cast, Int.cast_ofNat_Int] at hz
  have Hz := hide hz
  clear hz
  have hi2 := i64' hi
  go_enter Try.func33, Try.ntmps33
  go_upto_region 2 with (first | (go_at_call 21; refine (branches_ab _).mono ?_; rintro _ _ ⟨B, hB, rfl, o_, rfl⟩) | (go_at_call 38; refine (atomics_ab _).mono ?_; rintro _ _ ⟨A, hA, rfl, o_, rfl⟩) | (refine wpL_store_row rfl 38 (.tmp 4) (.tmp 12) rfl _ B rfl rfl 38 #[.int .i64 0, .int .i64 0, .int .i64 0, .int .i64 0, .int .i64 0, .int .i64 0, .int .i64 0, .int .i64 0] ?_ (info38 hB).1 (info38 hB).2.1 (info38 hB).2.2 ?_; · exact hp_alloc (hp_last (by simp))) | (refine wpL_store_row rfl 52 (.tmp 5) (.tmp 13) rfl _ A rfl rfl 52 #[.int .i64 0, .int .i64 0, .int .i64 0, .int .i64 0, .int .i64 0, .int .i64 0, .int .i64 0, .int .i64 0, .int .i64 0, .int .i64 0, .int .i64 0, .int .i64 0, .int .i64 0, .int .i64 0, .int .i64 0, .int .i64 0, .int .i64 0, .int .i64 0, .int .i64 0, .int .i64 0, .int .i64 0, .int .i64 0, .int .i64 0, .int .i64 0, .int .i64 0, .int .i64 0, .int .i64 0, .int .i64 0, .int .i64 0, .int .i64 0, .int .i64 0, .int .i64 0] ?_ (info52 hA).1 (info52 hA).2.1 (info52 hA).2.2 ?_; · exact row_ne (by omega) (hp_last (by simp))))
  with_reducible refine form_start fun W hgW hx h5 h6 => ?_
  generalize hg5 : w.heap.size + 1 + 1 + 1 = g5 at *
  generalize hg6 : g5 + 1 = g6 at *
  clear hg5 hg6
  have W1 := lt_of_heap' hx
  have W2 := lt_of_heap' h5
  have W3 := lt_of_heap' h6
  obtain ⟨⟨p0, q0⟩, ⟨p1, q1⟩, ⟨p2, q2⟩, ⟨p3, q3⟩, ⟨p4, q4⟩, ⟨p5, q5⟩, ⟨p6, q6⟩, ⟨p7, q7⟩, ⟨p8, q8⟩, ⟨p9, q9⟩, ⟨p10, q10⟩, ⟨p11, q11⟩⟩ := c12 hx
  have hf : placeN brL 6 = 1 := by decide
  go_upto_region 41 with fail
  have C5 := hide (cells_of (l := brL) (unhide hB) h5)
  go_quiet ((go_at_call 52; exact Calls.quiet_of (place_any brL 6 g5 8 rfl (by decide) _ (unhide C5))))
  clear C5
  go_upto_region 43 with fail
  clear p0 q0 p1 q1 p2 q2 p3 q3 p4 q4 p5 q5 p6 q6 p7 q7 p8 q8 p9 q9 p10 q10 p11 q11 W1 W2 W3
  refine cutF (w := w) (g5 := g5) (g6 := g6) (GN.drewN hgW _) hx h5 h6 fun W4 hgWn hxn h5n h6n => ?_
  clear hgW hx h5 h6 
  have hgW := hgWn
  have hx := hxn
  have h5 := h5n
  have h6 := h6n
  clear hgWn hxn h5n h6n
  have W1 := lt_of_heap' hx
  have W2 := lt_of_heap' h5
  have W3 := lt_of_heap' h6
  obtain ⟨⟨p0, q0⟩, ⟨p1, q1⟩, ⟨p2, q2⟩, ⟨p3, q3⟩, ⟨p4, q4⟩, ⟨p5, q5⟩, ⟨p6, q6⟩, ⟨p7, q7⟩, ⟨p8, q8⟩, ⟨p9, q9⟩, ⟨p10, q10⟩, ⟨p11, q11⟩⟩ := c12 hx
  go_quiet ((go_at_call 46; exact Calls.quiet_of (put_any _ _ _ (by decide) (by decide) _)))
  go_wp2
  go_ret2
  exact ⟨by rw [unhide Hz]; rfl, gnt⟩
set_option maxRecDepth 100000 in
set_option maxHeartbeats 4000000 in
theorem form_10 (rd r1 r2 r3 rm c sz i : Int) (hi : (Lit.int .i64 i).wf = true) (_hz : (Lit.int .i64 sz).wf = true) (ui : Bool) (us wd : Bool) (w : World) : Calls Try.prog 33 #[.agg #[.int .i64 10, .int .i64 rd, .int .i64 r1, .int .i64 r2, .int .i64 r3, .int .i64 rm, .int .i64 c, .int .i64 sz, .int .i64 i, .bool ui, .bool us, .bool wd]] w fun e w' => e = .returned (.tuple #[.int .u32 ((or32 (or32 (or32 (or32 (or32 (or32 (or32 (99) (28672)) (putN r1 15 5)) (putN r2 20 5)) (putN (i / 2) 8 4)) (putN (i / 32) 25 6)) (putN (i / 2048) 7 1)) (putN (i / 4096) 31 1) : Nat) : Int), .bool true]) ∧ GN w w' := by
  obtain ⟨z, hz⟩ : ∃ z : Int, z = ((or32 (or32 (or32 (or32 (or32 (or32 (or32 (99) (28672)) (putN r1 15 5)) (putN r2 20 5)) (putN (i / 2) 8 4)) (putN (i / 32) 25 6)) (putN (i / 2048) 7 1)) (putN (i / 4096) 31 1) : Nat) : Int) := ⟨_, rfl⟩
  rw [← hz]
  simp only [or32_cast, Int.cast_ofNat_Int] at hz
  have Hz := hide hz
  clear hz
  have hi2 := i64' hi
  go_enter Try.func33, Try.ntmps33
  go_upto_region 2 with (first | (go_at_call 21; refine (branches_ab _).mono ?_; rintro _ _ ⟨B, hB, rfl, o_, rfl⟩) | (go_at_call 38; refine (atomics_ab _).mono ?_; rintro _ _ ⟨A, hA, rfl, o_, rfl⟩) | (refine wpL_store_row rfl 38 (.tmp 4) (.tmp 12) rfl _ B rfl rfl 38 #[.int .i64 0, .int .i64 0, .int .i64 0, .int .i64 0, .int .i64 0, .int .i64 0, .int .i64 0, .int .i64 0] ?_ (info38 hB).1 (info38 hB).2.1 (info38 hB).2.2 ?_; · exact hp_alloc (hp_last (by simp))) | (refine wpL_store_row rfl 52 (.tmp 5) (.tmp 13) rfl _ A rfl rfl 52 #[.int .i64 0, .int .i64 0, .int .i64 0, .int .i64 0, .int .i64 0, .int .i64 0, .int .i64 0, .int .i64 0, .int .i64 0, .int .i64 0, .int .i64 0, .int .i64 0, .int .i64 0, .int .i64 0, .int .i64 0, .int .i64 0, .int .i64 0, .int .i64 0, .int .i64 0, .int .i64 0, .int .i64 0, .int .i64 0, .int .i64 0, .int .i64 0, .int .i64 0, .int .i64 0, .int .i64 0, .int .i64 0, .int .i64 0, .int .i64 0, .int .i64 0, .int .i64 0] ?_ (info52 hA).1 (info52 hA).2.1 (info52 hA).2.2 ?_; · exact row_ne (by omega) (hp_last (by simp))))
  with_reducible refine form_start fun W hgW hx h5 h6 => ?_
  generalize hg5 : w.heap.size + 1 + 1 + 1 = g5 at *
  generalize hg6 : g5 + 1 = g6 at *
  clear hg5 hg6
  have W1 := lt_of_heap' hx
  have W2 := lt_of_heap' h5
  have W3 := lt_of_heap' h6
  obtain ⟨⟨p0, q0⟩, ⟨p1, q1⟩, ⟨p2, q2⟩, ⟨p3, q3⟩, ⟨p4, q4⟩, ⟨p5, q5⟩, ⟨p6, q6⟩, ⟨p7, q7⟩, ⟨p8, q8⟩, ⟨p9, q9⟩, ⟨p10, q10⟩, ⟨p11, q11⟩⟩ := c12 hx
  have hf : placeN brL 10 = 7 := by decide
  go_upto_region 41 with fail
  have C5 := hide (cells_of (l := brL) (unhide hB) h5)
  go_quiet ((go_at_call 52; exact Calls.quiet_of (place_any brL 10 g5 8 rfl (by decide) _ (unhide C5))))
  clear C5
  go_upto_region 43 with fail
  clear p0 q0 p1 q1 p2 q2 p3 q3 p4 q4 p5 q5 p6 q6 p7 q7 p8 q8 p9 q9 p10 q10 p11 q11 W1 W2 W3
  refine cutF (w := w) (g5 := g5) (g6 := g6) (GN.drewN hgW _) hx h5 h6 fun W4 hgWn hxn h5n h6n => ?_
  clear hgW hx h5 h6 
  have hgW := hgWn
  have hx := hxn
  have h5 := h5n
  have h6 := h6n
  clear hgWn hxn h5n h6n
  have W1 := lt_of_heap' hx
  have W2 := lt_of_heap' h5
  have W3 := lt_of_heap' h6
  obtain ⟨⟨p0, q0⟩, ⟨p1, q1⟩, ⟨p2, q2⟩, ⟨p3, q3⟩, ⟨p4, q4⟩, ⟨p5, q5⟩, ⟨p6, q6⟩, ⟨p7, q7⟩, ⟨p8, q8⟩, ⟨p9, q9⟩, ⟨p10, q10⟩, ⟨p11, q11⟩⟩ := c12 hx
  go_quiet ((go_at_call 46; exact Calls.quiet_of (put_any _ _ _ (by decide) (by decide) _)))
  go_wp2
  go_ret2
  exact ⟨by rw [unhide Hz]; rfl, gnt⟩
set_option maxRecDepth 100000 in
set_option maxHeartbeats 4000000 in
theorem form_sum (k : Int) (rd r1 r2 r3 rm c sz i : Int) (hi : (Lit.int .i64 i).wf = true) (_hz : (Lit.int .i64 sz).wf = true) (ui : Bool) (us wd : Bool) (w : World) (n1 : (k == 1) = false) (n2 : (k == 2) = false) (n3 : (k == 3) = false) (n4 : (k == 4) = false) (n11 : (k == 11) = false) (n12 : (k == 12) = false) (n53 : (k == 53) = false) (n54 : (k == 54) = false) (n31 : (k == 31) = false) (n32 : (k == 32) = false) (n33 : (k == 33) = false) (n34 : (k == 34) = false) (n50 : (k == 50) = false) (n49 : (k == 49) = false) (n51 : (k == 51) = false) (n52 : (k == 52) = false) (n35 : (k == 35) = false) (n36 : (k == 36) = false) (n37 : (k == 37) = false) (hb : placeN brL k = -1) (ha : placeN atL k = -1) (hs : (sumN k rd r1 r2 i ui wd).2 = true) : Calls Try.prog 33 #[.agg #[.int .i64 k, .int .i64 rd, .int .i64 r1, .int .i64 r2, .int .i64 r3, .int .i64 rm, .int .i64 c, .int .i64 sz, .int .i64 i, .bool ui, .bool us, .bool wd]] w fun e w' => e = .returned (.tuple #[.int .u32 ((sumN k rd r1 r2 i ui wd).1 : Nat), .bool true]) ∧ GN w w' := by
  go_enter Try.func33, Try.ntmps33
  go_upto_region 2 with (first | (go_at_call 21; refine (branches_ab _).mono ?_; rintro _ _ ⟨B, hB, rfl, o_, rfl⟩) | (go_at_call 38; refine (atomics_ab _).mono ?_; rintro _ _ ⟨A, hA, rfl, o_, rfl⟩) | (refine wpL_store_row rfl 38 (.tmp 4) (.tmp 12) rfl _ B rfl rfl 38 #[.int .i64 0, .int .i64 0, .int .i64 0, .int .i64 0, .int .i64 0, .int .i64 0, .int .i64 0, .int .i64 0] ?_ (info38 hB).1 (info38 hB).2.1 (info38 hB).2.2 ?_; · exact hp_alloc (hp_last (by simp))) | (refine wpL_store_row rfl 52 (.tmp 5) (.tmp 13) rfl _ A rfl rfl 52 #[.int .i64 0, .int .i64 0, .int .i64 0, .int .i64 0, .int .i64 0, .int .i64 0, .int .i64 0, .int .i64 0, .int .i64 0, .int .i64 0, .int .i64 0, .int .i64 0, .int .i64 0, .int .i64 0, .int .i64 0, .int .i64 0, .int .i64 0, .int .i64 0, .int .i64 0, .int .i64 0, .int .i64 0, .int .i64 0, .int .i64 0, .int .i64 0, .int .i64 0, .int .i64 0, .int .i64 0, .int .i64 0, .int .i64 0, .int .i64 0, .int .i64 0, .int .i64 0] ?_ (info52 hA).1 (info52 hA).2.1 (info52 hA).2.2 ?_; · exact row_ne (by omega) (hp_last (by simp))))
  with_reducible refine form_start fun W hgW hx h5 h6 => ?_
  generalize hg5 : w.heap.size + 1 + 1 + 1 = g5 at *
  generalize hg6 : g5 + 1 = g6 at *
  clear hg5 hg6
  have W1 := lt_of_heap' hx
  have W2 := lt_of_heap' h5
  have W3 := lt_of_heap' h6
  obtain ⟨⟨p0, q0⟩, ⟨p1, q1⟩, ⟨p2, q2⟩, ⟨p3, q3⟩, ⟨p4, q4⟩, ⟨p5, q5⟩, ⟨p6, q6⟩, ⟨p7, q7⟩, ⟨p8, q8⟩, ⟨p9, q9⟩, ⟨p10, q10⟩, ⟨p11, q11⟩⟩ := c12 hx
  go_upto_region 41 with fail
  have C5 := hide (cells_of (l := brL) (unhide hB) h5)
  go_quiet ((go_at_call 52; exact Calls.quiet_of (place_any brL k g5 8 rfl (by decide) _ (unhide C5))))
  clear C5
  go_upto_region 44 with fail
  clear p0 q0 p1 q1 p2 q2 p3 q3 p4 q4 p5 q5 p6 q6 p7 q7 p8 q8 p9 q9 p10 q10 p11 q11 W1 W2 W3
  refine cutF (w := w) (g5 := g5) (g6 := g6) (GN.drewN hgW _) hx h5 h6 fun W4 hgWn hxn h5n h6n => ?_
  clear hgW hx h5 h6 
  have hgW := hgWn
  have hx := hxn
  have h5 := h5n
  have h6 := h6n
  clear hgWn hxn h5n h6n
  have W1 := lt_of_heap' hx
  have W2 := lt_of_heap' h5
  have W3 := lt_of_heap' h6
  obtain ⟨⟨p0, q0⟩, ⟨p1, q1⟩, ⟨p2, q2⟩, ⟨p3, q3⟩, ⟨p4, q4⟩, ⟨p5, q5⟩, ⟨p6, q6⟩, ⟨p7, q7⟩, ⟨p8, q8⟩, ⟨p9, q9⟩, ⟨p10, q10⟩, ⟨p11, q11⟩⟩ := c12 hx
  have C6 := hide (cells_of (l := atL) (unhide hA) h6)
  go_quiet ((go_at_call 52; exact Calls.quiet_of (place_any atL k g6 32 rfl (by decide) _ (unhide C6))))
  clear C6
  go_wp2_with (go_at_call 53; refine (sum_any _ _ _ _ _ _ _ _ _ (by assumption) _ _ _ _).mono ?_; rintro _ w53 ⟨rfl, hq⟩)
  have hgn : GN w w53 := GN.trans gnt hq
  go_ret2
  exact ⟨rfl, hgn⟩
end Go.Proofs.Ytopbdiekfhikmaa
namespace Go.Proofs.Ytopbdiekfhikmaa
open Go.RowKit
theorem br_none {k : Int} (h : ¬ (5 ≤ k ∧ k ≤ 10)) : placeN brL k = -1 := by
  unfold placeN brL
  simp only [plF]
  repeat rw [if_neg (by omega)]
theorem at_none {k : Int} (h : ¬ (38 ≤ k ∧ k ≤ 48)) : placeN atL k = -1 := by
  unfold placeN atL
  simp only [plF]
  repeat rw [if_neg (by omega)]
set_option maxRecDepth 100000 in
set_option maxHeartbeats 4000000 in
theorem form_any (k rd r1 r2 r3 rm c sz i : Int) (hi : (Lit.int .i64 i).wf = true) (hz : (Lit.int .i64 sz).wf = true) (ui us wd : Bool) (w : World) : Calls Try.prog 33 #[.agg #[.int .i64 k, .int .i64 rd, .int .i64 r1, .int .i64 r2, .int .i64 r3, .int .i64 rm, .int .i64 c, .int .i64 sz, .int .i64 i, .bool ui, .bool us, .bool wd]] w fun e w' => e = .returned (.tuple #[.int .u32 ((formN k rd r1 r2 r3 rm c sz i ui us wd).1 : Nat), .bool (formN k rd r1 r2 r3 rm c sz i ui us wd).2]) ∧ GN w w' := by
  have hc : (k ≠ 1 ∧ k ≠ 2 ∧ k ≠ 3 ∧ k ≠ 4 ∧ k ≠ 11 ∧ k ≠ 12 ∧ k ≠ 53 ∧ k ≠ 54 ∧ k ≠ 31 ∧ k ≠ 32 ∧ k ≠ 33 ∧ k ≠ 34 ∧ k ≠ 50 ∧ k ≠ 49 ∧ k ≠ 51 ∧ k ≠ 52 ∧ k ≠ 35 ∧ k ≠ 36 ∧ k ≠ 37 ∧ k ≠ 5 ∧ k ≠ 6 ∧ k ≠ 7 ∧ k ≠ 8 ∧ k ≠ 9 ∧ k ≠ 10 ∧ k ≠ 38 ∧ k ≠ 39 ∧ k ≠ 40 ∧ k ≠ 41 ∧ k ≠ 42 ∧ k ≠ 43 ∧ k ≠ 44 ∧ k ≠ 45 ∧ k ≠ 46 ∧ k ≠ 47 ∧ k ≠ 48) ∨ k = 1 ∨ k = 2 ∨ k = 3 ∨ k = 4 ∨ k = 11 ∨ k = 12 ∨ k = 53 ∨ k = 54 ∨ k = 31 ∨ k = 32 ∨ k = 33 ∨ k = 34 ∨ k = 50 ∨ k = 49 ∨ k = 51 ∨ k = 52 ∨ k = 35 ∨ k = 36 ∨ k = 37 ∨ k = 5 ∨ k = 6 ∨ k = 7 ∨ k = 8 ∨ k = 9 ∨ k = 10 ∨ k = 38 ∨ k = 39 ∨ k = 40 ∨ k = 41 ∨ k = 42 ∨ k = 43 ∨ k = 44 ∨ k = 45 ∨ k = 46 ∨ k = 47 ∨ k = 48 := by omega
  rcases hc with h | rfl | rfl | rfl | rfl | rfl | rfl | rfl | rfl | rfl | rfl | rfl | rfl | rfl | rfl | rfl | rfl | rfl | rfl | rfl | rfl | rfl | rfl | rfl | rfl | rfl | rfl | rfl | rfl | rfl | rfl | rfl | rfl | rfl | rfl | rfl | rfl
  · rw [show formN k rd r1 r2 r3 rm c sz i ui us wd = (if (sumN k rd r1 r2 i ui wd).2 = true then ((sumN k rd r1 r2 i ui wd).1, true) else floN k rd r1 r2 r3 rm sz us wd) from by unfold formN; repeat (first | rw [if_neg (by omega)])]
    obtain ⟨h1, h2, h3, h4, h11, h12, h53, h54, h31, h32, h33, h34, h50, h49, h51, h52, h35, h36, h37, h5, h6, h7, h8, h9, h10, h38, h39, h40, h41, h42, h43, h44, h45, h46, h47, h48⟩ := h
    have hb : placeN brL k = -1 := br_none (by omega)
    have ha : placeN atL k = -1 := at_none (by omega)
    cases hs : (sumN k rd r1 r2 i ui wd).2 with
    | true =>
      rw [if_pos rfl]
      exact form_sum k rd r1 r2 r3 rm c sz i hi hz ui us wd w (ne_b h1) (ne_b h2) (ne_b h3) (ne_b h4) (ne_b h11) (ne_b h12) (ne_b h53) (ne_b h54) (ne_b h31) (ne_b h32) (ne_b h33) (ne_b h34) (ne_b h50) (ne_b h49) (ne_b h51) (ne_b h52) (ne_b h35) (ne_b h36) (ne_b h37) hb ha hs
    | false =>
      rw [if_neg (by decide)]
      exact form_flo k rd r1 r2 r3 rm c sz i hi hz ui us wd w (ne_b h1) (ne_b h2) (ne_b h3) (ne_b h4) (ne_b h11) (ne_b h12) (ne_b h53) (ne_b h54) (ne_b h31) (ne_b h32) (ne_b h33) (ne_b h34) (ne_b h50) (ne_b h49) (ne_b h51) (ne_b h52) (ne_b h35) (ne_b h36) (ne_b h37) hb ha hs
  · rw [show formN 1 rd r1 r2 r3 rm c sz i ui us wd = (or32 (or32 (55) (putN rd 7 5)) (an12 i), true) from by unfold formN; repeat (first | rw [if_pos (by decide)] | rw [if_neg (by decide)])]
    exact form_1 rd r1 r2 r3 rm c sz i hi hz ui us wd w
  · rw [show formN 2 rd r1 r2 r3 rm c sz i ui us wd = (or32 (or32 (23) (putN rd 7 5)) (an12 i), true) from by unfold formN; repeat (first | rw [if_pos (by decide)] | rw [if_neg (by decide)])]
    exact form_2 rd r1 r2 r3 rm c sz i hi hz ui us wd w
  · rw [show formN 3 rd r1 r2 r3 rm c sz i ui us wd = (or32 (or32 (or32 (or32 (or32 (111) (putN rd 7 5)) (putN (i / 2) 21 10)) (putN (i / 2048) 20 1)) (putN (i / 4096) 12 8)) (putN (i / 1048576) 31 1), true) from by unfold formN; repeat (first | rw [if_pos (by decide)] | rw [if_neg (by decide)])]
    exact form_3 rd r1 r2 r3 rm c sz i hi hz ui us wd w
  · rw [show formN 4 rd r1 r2 r3 rm c sz i ui us wd = (or32 (103) (iN rd r1 i), true) from by unfold formN; repeat (first | rw [if_pos (by decide)] | rw [if_neg (by decide)])]
    exact form_4 rd r1 r2 r3 rm c sz i hi hz ui us wd w
  · rw [show formN 11 rd r1 r2 r3 rm c sz i ui us wd = (or32 (or32 (or32 (3) (logN sz * 4096 % 4294967296)) (us.toNat * 16384 % 4294967296)) (iN rd r1 i), true) from by unfold formN; repeat (first | rw [if_pos (by decide)] | rw [if_neg (by decide)])]
    exact form_11 rd r1 r2 r3 rm c sz i hi hz ui us wd w
  · rw [show formN 12 rd r1 r2 r3 rm c sz i ui us wd = (or32 (or32 (35) (logN sz * 4096 % 4294967296)) (sN r1 r2 i), true) from by unfold formN; repeat (first | rw [if_pos (by decide)] | rw [if_neg (by decide)])]
    exact form_12 rd r1 r2 r3 rm c sz i hi hz ui us wd w
  · rw [show formN 53 rd r1 r2 r3 rm c sz i ui us wd = (or32 (or32 (7) (logN sz * 4096 % 4294967296)) (iN rd r1 i), true) from by unfold formN; repeat (first | rw [if_pos (by decide)] | rw [if_neg (by decide)])]
    exact form_53 rd r1 r2 r3 rm c sz i hi hz ui us wd w
  · rw [show formN 54 rd r1 r2 r3 rm c sz i ui us wd = (or32 (or32 (39) (logN sz * 4096 % 4294967296)) (sN r1 r2 i), true) from by unfold formN; repeat (first | rw [if_pos (by decide)] | rw [if_neg (by decide)])]
    exact form_54 rd r1 r2 r3 rm c sz i hi hz ui us wd w
  · rw [show formN 31 rd r1 r2 r3 rm c sz i ui us wd = (15, true) from by unfold formN; repeat (first | rw [if_pos (by decide)] | rw [if_neg (by decide)])]
    exact form_31 rd r1 r2 r3 rm c sz i hi hz ui us wd w
  · rw [show formN 32 rd r1 r2 r3 rm c sz i ui us wd = (4111, true) from by unfold formN; repeat (first | rw [if_pos (by decide)] | rw [if_neg (by decide)])]
    exact form_32 rd r1 r2 r3 rm c sz i hi hz ui us wd w
  · rw [show formN 33 rd r1 r2 r3 rm c sz i ui us wd = (115, true) from by unfold formN; repeat (first | rw [if_pos (by decide)] | rw [if_neg (by decide)])]
    exact form_33 rd r1 r2 r3 rm c sz i hi hz ui us wd w
  · rw [show formN 34 rd r1 r2 r3 rm c sz i ui us wd = (1048691, true) from by unfold formN; repeat (first | rw [if_pos (by decide)] | rw [if_neg (by decide)])]
    exact form_34 rd r1 r2 r3 rm c sz i hi hz ui us wd w
  · rw [show formN 50 rd r1 r2 r3 rm c sz i ui us wd = (270532723, true) from by unfold formN; repeat (first | rw [if_pos (by decide)] | rw [if_neg (by decide)])]
    exact form_50 rd r1 r2 r3 rm c sz i hi hz ui us wd w
  · rw [show formN 49 rd r1 r2 r3 rm c sz i ui us wd = (807403635, true) from by unfold formN; repeat (first | rw [if_pos (by decide)] | rw [if_neg (by decide)])]
    exact form_49 rd r1 r2 r3 rm c sz i hi hz ui us wd w
  · rw [show formN 51 rd r1 r2 r3 rm c sz i ui us wd = (273678451, true) from by unfold formN; repeat (first | rw [if_pos (by decide)] | rw [if_neg (by decide)])]
    exact form_51 rd r1 r2 r3 rm c sz i hi hz ui us wd w
  · rw [show formN 52 rd r1 r2 r3 rm c sz i ui us wd = (or32 (301990003) (rN rd r1 r2), true) from by unfold formN; repeat (first | rw [if_pos (by decide)] | rw [if_neg (by decide)])]
    exact form_52 rd r1 r2 r3 rm c sz i hi hz ui us wd w
  · cases ui
    · rw [show formN 35 rd r1 r2 r3 rm c sz i false us wd = (or32 (or32 (or32 (or32 (115) (4096)) (putN rd 7 5)) (putN r1 15 5)) (putN c 20 12), true) from by unfold formN; repeat (first | rw [if_pos (by decide)] | rw [if_neg (by decide)])]
      exact form_35f rd r1 r2 r3 rm c sz i hi hz us wd w
    · rw [show formN 35 rd r1 r2 r3 rm c sz i true us wd = (or32 (or32 (or32 (or32 (115) (20480)) (putN rd 7 5)) (putN i 15 5)) (putN c 20 12), true) from by unfold formN; repeat (first | rw [if_pos (by decide)] | rw [if_neg (by decide)])]
      exact form_35t rd r1 r2 r3 rm c sz i hi hz us wd w
  · cases ui
    · rw [show formN 36 rd r1 r2 r3 rm c sz i false us wd = (or32 (or32 (or32 (or32 (115) (8192)) (putN rd 7 5)) (putN r1 15 5)) (putN c 20 12), true) from by unfold formN; repeat (first | rw [if_pos (by decide)] | rw [if_neg (by decide)])]
      exact form_36f rd r1 r2 r3 rm c sz i hi hz us wd w
    · rw [show formN 36 rd r1 r2 r3 rm c sz i true us wd = (or32 (or32 (or32 (or32 (115) (24576)) (putN rd 7 5)) (putN i 15 5)) (putN c 20 12), true) from by unfold formN; repeat (first | rw [if_pos (by decide)] | rw [if_neg (by decide)])]
      exact form_36t rd r1 r2 r3 rm c sz i hi hz us wd w
  · cases ui
    · rw [show formN 37 rd r1 r2 r3 rm c sz i false us wd = (or32 (or32 (or32 (or32 (115) (12288)) (putN rd 7 5)) (putN r1 15 5)) (putN c 20 12), true) from by unfold formN; repeat (first | rw [if_pos (by decide)] | rw [if_neg (by decide)])]
      exact form_37f rd r1 r2 r3 rm c sz i hi hz us wd w
    · rw [show formN 37 rd r1 r2 r3 rm c sz i true us wd = (or32 (or32 (or32 (or32 (115) (28672)) (putN rd 7 5)) (putN i 15 5)) (putN c 20 12), true) from by unfold formN; repeat (first | rw [if_pos (by decide)] | rw [if_neg (by decide)])]
      exact form_37t rd r1 r2 r3 rm c sz i hi hz us wd w
  · rw [show formN 5 rd r1 r2 r3 rm c sz i ui us wd = (or32 (or32 (or32 (or32 (or32 (or32 (or32 (99) (0)) (putN r1 15 5)) (putN r2 20 5)) (putN (i / 2) 8 4)) (putN (i / 32) 25 6)) (putN (i / 2048) 7 1)) (putN (i / 4096) 31 1), true) from by unfold formN; repeat (first | rw [if_pos (by decide)] | rw [if_neg (by decide)])]
    exact form_5 rd r1 r2 r3 rm c sz i hi hz ui us wd w
  · rw [show formN 6 rd r1 r2 r3 rm c sz i ui us wd = (or32 (or32 (or32 (or32 (or32 (or32 (or32 (99) (4096)) (putN r1 15 5)) (putN r2 20 5)) (putN (i / 2) 8 4)) (putN (i / 32) 25 6)) (putN (i / 2048) 7 1)) (putN (i / 4096) 31 1), true) from by unfold formN; repeat (first | rw [if_pos (by decide)] | rw [if_neg (by decide)])]
    exact form_6 rd r1 r2 r3 rm c sz i hi hz ui us wd w
  · rw [show formN 7 rd r1 r2 r3 rm c sz i ui us wd = (or32 (or32 (or32 (or32 (or32 (or32 (or32 (99) (16384)) (putN r1 15 5)) (putN r2 20 5)) (putN (i / 2) 8 4)) (putN (i / 32) 25 6)) (putN (i / 2048) 7 1)) (putN (i / 4096) 31 1), true) from by unfold formN; repeat (first | rw [if_pos (by decide)] | rw [if_neg (by decide)])]
    exact form_7 rd r1 r2 r3 rm c sz i hi hz ui us wd w
  · rw [show formN 8 rd r1 r2 r3 rm c sz i ui us wd = (or32 (or32 (or32 (or32 (or32 (or32 (or32 (99) (20480)) (putN r1 15 5)) (putN r2 20 5)) (putN (i / 2) 8 4)) (putN (i / 32) 25 6)) (putN (i / 2048) 7 1)) (putN (i / 4096) 31 1), true) from by unfold formN; repeat (first | rw [if_pos (by decide)] | rw [if_neg (by decide)])]
    exact form_8 rd r1 r2 r3 rm c sz i hi hz ui us wd w
  · rw [show formN 9 rd r1 r2 r3 rm c sz i ui us wd = (or32 (or32 (or32 (or32 (or32 (or32 (or32 (99) (24576)) (putN r1 15 5)) (putN r2 20 5)) (putN (i / 2) 8 4)) (putN (i / 32) 25 6)) (putN (i / 2048) 7 1)) (putN (i / 4096) 31 1), true) from by unfold formN; repeat (first | rw [if_pos (by decide)] | rw [if_neg (by decide)])]
    exact form_9 rd r1 r2 r3 rm c sz i hi hz ui us wd w
  · rw [show formN 10 rd r1 r2 r3 rm c sz i ui us wd = (or32 (or32 (or32 (or32 (or32 (or32 (or32 (99) (28672)) (putN r1 15 5)) (putN r2 20 5)) (putN (i / 2) 8 4)) (putN (i / 32) 25 6)) (putN (i / 2048) 7 1)) (putN (i / 4096) 31 1), true) from by unfold formN; repeat (first | rw [if_pos (by decide)] | rw [if_neg (by decide)])]
    exact form_10 rd r1 r2 r3 rm c sz i hi hz ui us wd w
  · rw [show formN 38 rd r1 r2 r3 rm c sz i ui us wd = (or32 (or32 (or32 (47) (logN sz * 4096 % 4294967296)) (268435456)) (rN rd r1 r2), true) from by unfold formN; repeat (first | rw [if_pos (by decide)] | rw [if_neg (by decide)])]
    exact form_at 38 2 (by decide) rd r1 r2 r3 rm c sz i hi hz ui us wd w rfl rfl rfl rfl rfl rfl rfl rfl rfl rfl rfl rfl rfl rfl rfl rfl rfl rfl rfl (by decide) (by decide)
  · rw [show formN 39 rd r1 r2 r3 rm c sz i ui us wd = (or32 (or32 (or32 (47) (logN sz * 4096 % 4294967296)) (402653184)) (rN rd r1 r2), true) from by unfold formN; repeat (first | rw [if_pos (by decide)] | rw [if_neg (by decide)])]
    exact form_at 39 3 (by decide) rd r1 r2 r3 rm c sz i hi hz ui us wd w rfl rfl rfl rfl rfl rfl rfl rfl rfl rfl rfl rfl rfl rfl rfl rfl rfl rfl rfl (by decide) (by decide)
  · rw [show formN 40 rd r1 r2 r3 rm c sz i ui us wd = (or32 (or32 (or32 (47) (logN sz * 4096 % 4294967296)) (134217728)) (rN rd r1 r2), true) from by unfold formN; repeat (first | rw [if_pos (by decide)] | rw [if_neg (by decide)])]
    exact form_at 40 1 (by decide) rd r1 r2 r3 rm c sz i hi hz ui us wd w rfl rfl rfl rfl rfl rfl rfl rfl rfl rfl rfl rfl rfl rfl rfl rfl rfl rfl rfl (by decide) (by decide)
  · rw [show formN 41 rd r1 r2 r3 rm c sz i ui us wd = (or32 (or32 (or32 (47) (logN sz * 4096 % 4294967296)) (0)) (rN rd r1 r2), true) from by unfold formN; repeat (first | rw [if_pos (by decide)] | rw [if_neg (by decide)])]
    exact form_at 41 0 (by decide) rd r1 r2 r3 rm c sz i hi hz ui us wd w rfl rfl rfl rfl rfl rfl rfl rfl rfl rfl rfl rfl rfl rfl rfl rfl rfl rfl rfl (by decide) (by decide)
  · rw [show formN 42 rd r1 r2 r3 rm c sz i ui us wd = (or32 (or32 (or32 (47) (logN sz * 4096 % 4294967296)) (536870912)) (rN rd r1 r2), true) from by unfold formN; repeat (first | rw [if_pos (by decide)] | rw [if_neg (by decide)])]
    exact form_at 42 4 (by decide) rd r1 r2 r3 rm c sz i hi hz ui us wd w rfl rfl rfl rfl rfl rfl rfl rfl rfl rfl rfl rfl rfl rfl rfl rfl rfl rfl rfl (by decide) (by decide)
  · rw [show formN 43 rd r1 r2 r3 rm c sz i ui us wd = (or32 (or32 (or32 (47) (logN sz * 4096 % 4294967296)) (1610612736)) (rN rd r1 r2), true) from by unfold formN; repeat (first | rw [if_pos (by decide)] | rw [if_neg (by decide)])]
    exact form_at 43 12 (by decide) rd r1 r2 r3 rm c sz i hi hz ui us wd w rfl rfl rfl rfl rfl rfl rfl rfl rfl rfl rfl rfl rfl rfl rfl rfl rfl rfl rfl (by decide) (by decide)
  · rw [show formN 44 rd r1 r2 r3 rm c sz i ui us wd = (or32 (or32 (or32 (47) (logN sz * 4096 % 4294967296)) (1073741824)) (rN rd r1 r2), true) from by unfold formN; repeat (first | rw [if_pos (by decide)] | rw [if_neg (by decide)])]
    exact form_at 44 8 (by decide) rd r1 r2 r3 rm c sz i hi hz ui us wd w rfl rfl rfl rfl rfl rfl rfl rfl rfl rfl rfl rfl rfl rfl rfl rfl rfl rfl rfl (by decide) (by decide)
  · rw [show formN 45 rd r1 r2 r3 rm c sz i ui us wd = (or32 (or32 (or32 (47) (logN sz * 4096 % 4294967296)) (2147483648)) (rN rd r1 r2), true) from by unfold formN; repeat (first | rw [if_pos (by decide)] | rw [if_neg (by decide)])]
    exact form_at 45 16 (by decide) rd r1 r2 r3 rm c sz i hi hz ui us wd w rfl rfl rfl rfl rfl rfl rfl rfl rfl rfl rfl rfl rfl rfl rfl rfl rfl rfl rfl (by decide) (by decide)
  · rw [show formN 46 rd r1 r2 r3 rm c sz i ui us wd = (or32 (or32 (or32 (47) (logN sz * 4096 % 4294967296)) (2684354560)) (rN rd r1 r2), true) from by unfold formN; repeat (first | rw [if_pos (by decide)] | rw [if_neg (by decide)])]
    exact form_at 46 20 (by decide) rd r1 r2 r3 rm c sz i hi hz ui us wd w rfl rfl rfl rfl rfl rfl rfl rfl rfl rfl rfl rfl rfl rfl rfl rfl rfl rfl rfl (by decide) (by decide)
  · rw [show formN 47 rd r1 r2 r3 rm c sz i ui us wd = (or32 (or32 (or32 (47) (logN sz * 4096 % 4294967296)) (3221225472)) (rN rd r1 r2), true) from by unfold formN; repeat (first | rw [if_pos (by decide)] | rw [if_neg (by decide)])]
    exact form_at 47 24 (by decide) rd r1 r2 r3 rm c sz i hi hz ui us wd w rfl rfl rfl rfl rfl rfl rfl rfl rfl rfl rfl rfl rfl rfl rfl rfl rfl rfl rfl (by decide) (by decide)
  · rw [show formN 48 rd r1 r2 r3 rm c sz i ui us wd = (or32 (or32 (or32 (47) (logN sz * 4096 % 4294967296)) (3758096384)) (rN rd r1 r2), true) from by unfold formN; repeat (first | rw [if_pos (by decide)] | rw [if_neg (by decide)])]
    exact form_at 48 28 (by decide) rd r1 r2 r3 rm c sz i hi hz ui us wd w rfl rfl rfl rfl rfl rfl rfl rfl rfl rfl rfl rfl rfl rfl rfl rfl rfl rfl rfl (by decide) (by decide)
end Go.Proofs.Ytopbdiekfhikmaa
