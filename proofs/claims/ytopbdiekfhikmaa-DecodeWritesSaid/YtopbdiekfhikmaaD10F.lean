/- Layer 3: Decode (leaves). / Layer 3: Decode (leaves). / Layer 3: Decode (leaves). / Layer 3: Decode (leaves). / Layer 3: Decode (all). -/
import Derived.Test.YtopbdiekfhikmaaD10
namespace Go.Proofs.Ytopbdiekfhikmaa
open Go.RowKit
set_option maxRecDepth 100000 in
set_option maxHeartbeats 4000000 in
theorem dec_0 (b : Nat) (hb : b < 4294967296) (f : Nat) (rd r1 r2 : Nat) (hop : fd b 0 7 = 55) (hf : fd b 12 3 = f) (hrd : fd b 7 5 = rd) (hr1 : fd b 15 5 = r1) (hr2 : fd b 20 5 = r2) (w : World) : Calls Try.prog 10 #[.int .u32 b] w fun r w' => r = .returned (insV (decK b 55 f rd r1 r2)) ∧ GN w w'  := by
  have hf8 : f < 8 := hf ▸ fd_lt b 12 3
  have hf' := hide hf
  have hrd' := hide hrd
  have hr1' := hide hr1
  have hr2' := hide hr2
  have tt := True.intro
  have hl := hide (show decK b 55 f rd r1 r2 = (⟨1, rd, 0, 0, 0, 0, 0, 0, immU b, false, false, false⟩ : Ins) from by simp [decK])
  go_enter Try.func10, Try.ntmps10
  go_wp2_with (first | (go_at_call 14; refine (bits_any _ _ _ (by assumption) (by decide) (by decide) (by decide) _).mono ?_; rintro _ _ ⟨rfl, m_, rfl⟩) | (go_at_call 15; refine (rd_any _ (by assumption) _).mono ?_; rintro _ _ ⟨rfl, m_, rfl⟩) | (go_at_call 18; refine (f3_any _ (by assumption) _).mono ?_; rintro _ _ ⟨rfl, m_, rfl⟩) | (go_at_call 19; refine (rs1_any _ (by assumption) _).mono ?_; rintro _ _ ⟨rfl, m_, rfl⟩) | (go_at_call 20; refine (immI_any _ (by assumption) _).mono ?_; rintro _ _ ⟨rfl, m_, rfl⟩) | (go_at_call 22; refine (rs2_any _ (by assumption) _).mono ?_; rintro _ _ ⟨rfl, m_, rfl⟩) | (go_at_call 25; refine (immS_any _ (by assumption) _).mono ?_; rintro _ _ ⟨rfl, m_, rfl⟩) | (go_at_call 16; refine (immU_any _ (by assumption) _).mono ?_; rintro _ _ ⟨rfl, m_, rfl⟩) | (go_at_call 17; refine (immJ_any _ (by assumption) _).mono ?_; rintro _ _ ⟨rfl, m_, rfl⟩) | (go_at_call 23; refine (immB_any _ (by assumption) _).mono ?_; rintro _ _ ⟨rfl, m_, rfl⟩) | (go_at_call 21; refine (branches_any _).mono ?_; rintro _ _ ⟨rfl, o_, rfl⟩) | (go_at_call 24; refine (loads_any _).mono ?_; rintro _ _ ⟨rfl, o_, rfl⟩))
  refine fin25 2 rfl rfl rfl ⟨_, hpt, rfl, ?_, ?_⟩
  · rw [unhide hl]; rfl
  · exact gnt
set_option maxRecDepth 100000 in
set_option maxHeartbeats 4000000 in
theorem dec_4 (b : Nat) (hb : b < 4294967296) (f : Nat) (rd r1 r2 : Nat) (hop : fd b 0 7 = 103) (hf : fd b 12 3 = f) (hrd : fd b 7 5 = rd) (hr1 : fd b 15 5 = r1) (hr2 : fd b 20 5 = r2) (f0 : f ≠ 0) (w : World) : Calls Try.prog 10 #[.int .u32 b] w fun r w' => r = .returned (insV (decK b 103 f rd r1 r2)) ∧ GN w w'  := by
  have hf8 : f < 8 := hf ▸ fd_lt b 12 3
  have hf' := hide hf
  have hrd' := hide hrd
  have hr1' := hide hr1
  have hr2' := hide hr2
  have n0 := ne_b (show ((f : Nat) : Int) ≠ 0 by omega)
  have hl := hide (show decK b 103 f rd r1 r2 = fallN (floatN b) from by simp [decK, f0])
  go_enter Try.func10, Try.ntmps10
  go_upto_region 40 with (first | (go_at_call 14; refine (bits_any _ _ _ (by assumption) (by decide) (by decide) (by decide) _).mono ?_; rintro _ _ ⟨rfl, m_, rfl⟩) | (go_at_call 15; refine (rd_any _ (by assumption) _).mono ?_; rintro _ _ ⟨rfl, m_, rfl⟩) | (go_at_call 18; refine (f3_any _ (by assumption) _).mono ?_; rintro _ _ ⟨rfl, m_, rfl⟩) | (go_at_call 19; refine (rs1_any _ (by assumption) _).mono ?_; rintro _ _ ⟨rfl, m_, rfl⟩) | (go_at_call 20; refine (immI_any _ (by assumption) _).mono ?_; rintro _ _ ⟨rfl, m_, rfl⟩) | (go_at_call 22; refine (rs2_any _ (by assumption) _).mono ?_; rintro _ _ ⟨rfl, m_, rfl⟩) | (go_at_call 25; refine (immS_any _ (by assumption) _).mono ?_; rintro _ _ ⟨rfl, m_, rfl⟩) | (go_at_call 16; refine (immU_any _ (by assumption) _).mono ?_; rintro _ _ ⟨rfl, m_, rfl⟩) | (go_at_call 17; refine (immJ_any _ (by assumption) _).mono ?_; rintro _ _ ⟨rfl, m_, rfl⟩) | (go_at_call 23; refine (immB_any _ (by assumption) _).mono ?_; rintro _ _ ⟨rfl, m_, rfl⟩) | (go_at_call 21; refine (branches_any _).mono ?_; rintro _ _ ⟨rfl, o_, rfl⟩) | (go_at_call 24; refine (loads_any _).mono ?_; rintro _ _ ⟨rfl, o_, rfl⟩))
  go_at_call 30
  refine (ag_of (float_any _ (by assumption) _)).mono ?_
  rintro _ w30 ⟨y, hy, rfl, hq⟩
  have hgn : GN w w30 := GN.trans gnt hq
  have hz := hp_gn hq (g := w.heap.size) (o := .cells #[.int .i64 0, .int .i64 0, .int .i64 0, .int .i64 0, .int .i64 0, .int .i64 0, .int .i64 0, .int .i64 0, .int .i64 0, .bool false, .bool false, .bool false] 25) hpt
  have hz4 := hp_gn hq (g := w.heap.size + 1) (o := .cells #[.int .i64 0, .int .i64 0, .int .i64 0, .int .i64 0, .int .i64 0, .int .i64 0, .int .i64 0, .int .i64 0, .int .i64 0, .bool false, .bool false, .bool false] 25) hpt
  obtain ⟨⟨p0, q0⟩, ⟨p1, q1⟩, ⟨p2, q2⟩, ⟨p3, q3⟩, ⟨p4, q4⟩, ⟨p5, q5⟩, ⟨p6, q6⟩, ⟨p7, q7⟩, ⟨p8, q8⟩, ⟨p9, q9⟩, ⟨p10, q10⟩, ⟨p11, q11⟩⟩ := c12 hz
  obtain ⟨⟨p40, q40⟩, ⟨p41, q41⟩, ⟨p42, q42⟩, ⟨p43, q43⟩, ⟨p44, q44⟩, ⟨p45, q45⟩, ⟨p46, q46⟩, ⟨p47, q47⟩, ⟨p48, q48⟩, ⟨p49, q49⟩, ⟨p410, q410⟩, ⟨p411, q411⟩⟩ := c12 hz4
  have l1 := lt_of_heap' hz
  have l2 := lt_of_heap' hz4
  have m1 : w30.heap.size ≠ w.heap.size := by omega
  have m2 : w30.heap.size ≠ w.heap.size + 1 := by omega
  have m3 := m1.symm
  have m4 := m2.symm
  have hwg : w.heap.size ≤ w30.heap.size := by omega
  clear hq
  go_upto_region 40 with fail
  obtain ⟨k, rd3, q1_, q2_, q3_, q4_, q5_, q6_, q7_, u1_, u2_, u3_⟩ := y
  have hk : k = 0 ∨ k ≠ 0 := by omega
  rcases hk with rfl | hk
  · have tt := True.intro
    go_wp2_with fail
    refine fin25 2 rfl rfl rfl ⟨_, hpt, rfl, ?_, ?_⟩
    · rw [unhide hl]; unfold fallN; rw [show floatN b = _ from unhide hy, if_pos rfl]; rfl
    · exact gnt
  · have nk := ne_t hk
    go_wp2_with fail
    refine fin25 2 rfl rfl rfl ⟨_, hpt, rfl, ?_, ?_⟩
    · rw [unhide hl]; unfold fallN; rw [show floatN b = _ from unhide hy, if_neg hk]; rfl
    · exact gnt
set_option maxRecDepth 100000 in
set_option maxHeartbeats 4000000 in
theorem dec_8 (b : Nat) (hb : b < 4294967296) (f : Nat) (rd r1 r2 : Nat) (hop : fd b 0 7 = 3) (hf : fd b 12 3 = f) (hrd : fd b 7 5 = rd) (hr1 : fd b 15 5 = r1) (hr2 : fd b 20 5 = r2) (k0 : ldK f ≠ 0) (w : World) : Calls Try.prog 10 #[.int .u32 b] w fun r w' => r = .returned (insV (decK b 3 f rd r1 r2)) ∧ GN w w'  := by
  have hf8 : f < 8 := hf ▸ fd_lt b 12 3
  have hf' := hide hf
  have hrd' := hide hrd
  have hr1' := hide hr1
  have hr2' := hide hr2
  have i1 := ix_loads f f rfl hf8
  obtain ⟨k, hk⟩ : ∃ k, ldK f = k := ⟨_, rfl⟩
  obtain ⟨z, hzz⟩ : ∃ k, ldS f = k := ⟨_, rfl⟩
  obtain ⟨u, hu⟩ : ∃ k, ldU f = k := ⟨_, rfl⟩
  rw [hk, hzz, hu] at i1
  rw [hk] at k0
  have Hk := hide hk
  have Hz := hide hzz
  have Hu := hide hu
  clear hk hzz hu
  have nk := ne_t k0
  have hl := hide (show decK b 3 f rd r1 r2 = (⟨k, rd, r1, 0, 0, 0, 0, z, immI b, false, u, false⟩ : Ins) from by simp [decK, unhide Hk, unhide Hz, unhide Hu, k0])
  go_enter Try.func10, Try.ntmps10
  go_upto_region 20 with (first | (go_at_call 14; refine (bits_any _ _ _ (by assumption) (by decide) (by decide) (by decide) _).mono ?_; rintro _ _ ⟨rfl, m_, rfl⟩) | (go_at_call 15; refine (rd_any _ (by assumption) _).mono ?_; rintro _ _ ⟨rfl, m_, rfl⟩) | (go_at_call 18; refine (f3_any _ (by assumption) _).mono ?_; rintro _ _ ⟨rfl, m_, rfl⟩) | (go_at_call 19; refine (rs1_any _ (by assumption) _).mono ?_; rintro _ _ ⟨rfl, m_, rfl⟩) | (go_at_call 20; refine (immI_any _ (by assumption) _).mono ?_; rintro _ _ ⟨rfl, m_, rfl⟩) | (go_at_call 22; refine (rs2_any _ (by assumption) _).mono ?_; rintro _ _ ⟨rfl, m_, rfl⟩) | (go_at_call 25; refine (immS_any _ (by assumption) _).mono ?_; rintro _ _ ⟨rfl, m_, rfl⟩) | (go_at_call 16; refine (immU_any _ (by assumption) _).mono ?_; rintro _ _ ⟨rfl, m_, rfl⟩) | (go_at_call 17; refine (immJ_any _ (by assumption) _).mono ?_; rintro _ _ ⟨rfl, m_, rfl⟩) | (go_at_call 23; refine (immB_any _ (by assumption) _).mono ?_; rintro _ _ ⟨rfl, m_, rfl⟩) | (go_at_call 21; refine (branches_any _).mono ?_; rintro _ _ ⟨rfl, o_, rfl⟩) | (go_at_call 24; refine (loads_any _).mono ?_; rintro _ _ ⟨rfl, o_, rfl⟩))
  refine cut3 (w := w) (g6 := w.heap.size + 1 + 1 + 1) (z := #[.int .i64 0, .int .i64 0, .int .i64 0, .int .i64 0, .int .i64 0, .int .i64 0, .int .i64 0, .int .i64 0, .int .i64 0, .bool false, .bool false, .bool false]) (x := #[.int .i64 k, .int .i64 z, .bool u]) ?_ ?_ ?_ fun W hgW hzW h6 => ?_
  · exact gnt
  · exact hpt
  · exact hpt
  generalize w.heap.size + 1 + 1 + 1 = g6 at *
  refine wp_region_E (fun w_ => GN W w_) GN (fun k_ v_ w_ => match k_ with
      | 0 => v_ = .pointer (some ⟨g6, 0, none⟩)
      | 1 => v_ = .int .i64 k
      | 2 => v_ = .int .u32 (b : Int)
      | 3 => v_ = .int .i64 (rd : Int)
      | 4 => v_ = .int .u32 (b : Int)
      | 5 => v_ = .int .i64 (r1 : Int)
      | 6 => v_ = .int .u32 (b : Int)
      | 7 => v_ = .int .i64 (immI b)
      | 8 => v_ = .pointer (some ⟨g6, 1, none⟩)
      | 9 => v_ = .int .i64 z
      | 10 => v_ = .pointer (some ⟨g6, 2, none⟩)
      | 11 => v_ = .bool u
      | _ => v_ = .agg #[.int .i64 k, .int .i64 (rd : Int), .int .i64 (r1 : Int), .int .i64 0, .int .i64 0, .int .i64 0, .int .i64 0, .int .i64 z, .int .i64 (immI b), .bool false, .bool u, .bool false]) fol (by kernel_rfl) ?_ ?_ (n := 13) rfl rfl rfl (by kernel_rfl) ?_ ?_
  · exact (GN.refl W).drew
  · intro k_ v_ w_ w2_ h1 hg
    split at h1 <;> exact h1
  · intro vals
    show wpG _ _ _ _ _ _ 0 (_ :: _) _
    refine wpG_cons (gval (.pointer (some ⟨g6, 0, none⟩)) GN.refl fun w_ hJ hd => ?_) ?_
    · exact ⟨by kernel_rfl, by kernel_rfl, rfl⟩
    refine wpG_cons (gop (Instr.loadAt 3 (.pointer (some ⟨g6, 0, none⟩))) (.int .i64 k) GN.refl fun w_ hJ hd => ?_) ?_
    · have e0 : vals 0 = _ := hd 0 (by decide) (by kernel_rfl)
      rw [e0]
      exact ⟨by kernel_rfl, by kernel_rfl, run_load1 (by kernel_rfl) (c3c (GN.heap hJ h6)).1.1, rfl⟩
    refine wpG_cons (gval (.int .u32 (b : Int)) GN.refl fun w_ hJ hd => ?_) ?_
    · exact ⟨by kernel_rfl, by kernel_rfl, rfl⟩
    refine wpG_cons (gcall 15 #[.int .u32 (b : Int)] fun w_ hJ hd => ?_) ?_
    · have e2 : vals 2 = _ := hd 2 (by decide) (by kernel_rfl)
      rw [e2]
      exact ⟨by kernel_rfl, by kernel_rfl, (rd_any b hb w_).mono fun e w2 ⟨he, m, hw⟩ => ⟨_, he, by subst hw; exact hJ.drewN _, by subst hw; exact (GN.refl w_).drewN _, by rw [hrd]; exact rfl⟩⟩
    refine wpG_cons (gval (.int .u32 (b : Int)) GN.refl fun w_ hJ hd => ?_) ?_
    · exact ⟨by kernel_rfl, by kernel_rfl, rfl⟩
    refine wpG_cons (gcall 19 #[.int .u32 (b : Int)] fun w_ hJ hd => ?_) ?_
    · have e4 : vals 4 = _ := hd 4 (by decide) (by kernel_rfl)
      rw [e4]
      exact ⟨by kernel_rfl, by kernel_rfl, (rs1_any b hb w_).mono fun e w2 ⟨he, m, hw⟩ => ⟨_, he, by subst hw; exact hJ.drewN _, by subst hw; exact (GN.refl w_).drewN _, by rw [hr1]; exact rfl⟩⟩
    refine wpG_cons (gval (.int .u32 (b : Int)) GN.refl fun w_ hJ hd => ?_) ?_
    · exact ⟨by kernel_rfl, by kernel_rfl, rfl⟩
    refine wpG_cons (gcall 20 #[.int .u32 (b : Int)] fun w_ hJ hd => ?_) ?_
    · have e6 : vals 6 = _ := hd 6 (by decide) (by kernel_rfl)
      rw [e6]
      exact ⟨by kernel_rfl, by kernel_rfl, (immI_any b hb w_).mono fun e w2 ⟨he, m, hw⟩ => ⟨_, he, by subst hw; exact hJ.drewN _, by subst hw; exact (GN.refl w_).drewN _, rfl⟩⟩
    refine wpG_cons (gval (.pointer (some ⟨g6, 1, none⟩)) GN.refl fun w_ hJ hd => ?_) ?_
    · exact ⟨by kernel_rfl, by kernel_rfl, rfl⟩
    refine wpG_cons (gop (Instr.loadAt 3 (.pointer (some ⟨g6, 1, none⟩))) (.int .i64 z) GN.refl fun w_ hJ hd => ?_) ?_
    · have e8 : vals 8 = _ := hd 8 (by decide) (by kernel_rfl)
      rw [e8]
      exact ⟨by kernel_rfl, by kernel_rfl, run_load1 (by kernel_rfl) (c3c (GN.heap hJ h6)).2.1.1, rfl⟩
    refine wpG_cons (gval (.pointer (some ⟨g6, 2, none⟩)) GN.refl fun w_ hJ hd => ?_) ?_
    · exact ⟨by kernel_rfl, by kernel_rfl, rfl⟩
    refine wpG_cons (gop (Instr.loadAt 4 (.pointer (some ⟨g6, 2, none⟩))) (.bool u) GN.refl fun w_ hJ hd => ?_) ?_
    · have e10 : vals 10 = _ := hd 10 (by decide) (by kernel_rfl)
      rw [e10]
      exact ⟨by kernel_rfl, by kernel_rfl, run_load1 (by kernel_rfl) (c3c (GN.heap hJ h6)).2.2.1, rfl⟩
    refine wpG_cons (gval (.agg #[.int .i64 k, .int .i64 (rd : Int), .int .i64 (r1 : Int), .int .i64 0, .int .i64 0, .int .i64 0, .int .i64 0, .int .i64 z, .int .i64 (immI b), .bool false, .bool u, .bool false]) GN.refl fun w_ hJ hd => ?_) wpG_nil
    · have e1 : vals 1 = _ := hd 1 (by decide) (by kernel_rfl)
      have e3 : vals 3 = _ := hd 3 (by decide) (by kernel_rfl)
      have e5 : vals 5 = _ := hd 5 (by decide) (by kernel_rfl)
      have e7 : vals 7 = _ := hd 7 (by decide) (by kernel_rfl)
      have e9 : vals 9 = _ := hd 9 (by decide) (by kernel_rfl)
      have e11 : vals 11 = _ := hd 11 (by decide) (by kernel_rfl)
      rw [e1, e3, e5, e7, e9, e11]
      exact ⟨by kernel_rfl, by kernel_rfl, rfl⟩
  intro vals w_ hJ hf
  have e0 : vals 0 = _ := hf 0 (by decide)
  have e1 : vals 1 = _ := hf 1 (by decide)
  have e2 : vals 2 = _ := hf 2 (by decide)
  have e3 : vals 3 = _ := hf 3 (by decide)
  have e4 : vals 4 = _ := hf 4 (by decide)
  have e5 : vals 5 = _ := hf 5 (by decide)
  have e6 : vals 6 = _ := hf 6 (by decide)
  have e7 : vals 7 = _ := hf 7 (by decide)
  have e8 : vals 8 = _ := hf 8 (by decide)
  have e9 : vals 9 = _ := hf 9 (by decide)
  have e10 : vals 10 = _ := hf 10 (by decide)
  have e11 : vals 11 = _ := hf 11 (by decide)
  have e12 : vals 12 = _ := hf 12 (by decide)
  show Oper.wp _ _ (fillG vals 0 (_ :: _ :: _ :: _ :: _ :: _ :: _ :: _ :: _ :: _ :: _ :: _ :: _ :: []) _) _ _ _
  simp only [fillG, Nat.zero_add, Nat.reduceAdd, e0, e1, e2, e3, e4, e5, e6, e7, e8, e9, e10, e11, e12, Act.put, List.setIfInBounds_toArray, List.set_cons_succ, List.set_cons_zero]
  clear e0 e1 e2 e3 e4 e5 e6 e7 e8 e9 e10 e11 e12 hf
  refine wp_store_row 25 (.tmp 2) (.tmp 82) rfl w.heap.size _ rfl rfl 25 _ (GN.heap hJ hzW) (by kernel_rfl) rfl (by kernel_rfl) ?_
  have k4 := row_self (cs := #[.int .i64 k, .int .i64 (rd : Int), .int .i64 (r1 : Int), .int .i64 0, .int .i64 0, .int .i64 0, .int .i64 0, .int .i64 z, .int .i64 (immI b), .bool false, .bool u, .bool false]) (GN.heap hJ hzW)
  have hgn := GN.setRow (cs := #[.int .i64 k, .int .i64 (rd : Int), .int .i64 (r1 : Int), .int .i64 0, .int .i64 0, .int .i64 0, .int .i64 0, .int .i64 z, .int .i64 (immI b), .bool false, .bool u, .bool false]) (hgW.trans hJ) (Nat.le_refl _)
  generalize w_.setRow w.heap.size _ = w1 at *
  go_wp2
  refine fin25 2 rfl rfl rfl ⟨_, hpt, rfl, ?_, ?_⟩
  · rw [unhide hl]; rfl
  · exact gnt
set_option maxRecDepth 100000 in
set_option maxHeartbeats 4000000 in
theorem dec_12 (b : Nat) (hb : b < 4294967296) (rd r1 r2 : Nat) (hop : fd b 0 7 = 35) (hf : fd b 12 3 = 3) (hrd : fd b 7 5 = rd) (hr1 : fd b 15 5 = r1) (hr2 : fd b 20 5 = r2) (w : World) : Calls Try.prog 10 #[.int .u32 b] w fun r w' => r = .returned (insV (decK b 35 3 rd r1 r2)) ∧ GN w w'  := by
  have hf' := hide hf
  have hrd' := hide hrd
  have hr1' := hide hr1
  have hr2' := hide hr2
  have tt := True.intro
  have hl := hide (show decK b 35 3 rd r1 r2 = (⟨12, 0, r1, r2, 0, 0, 0, 8, immS b, false, false, false⟩ : Ins) from by simp [decK])
  go_enter Try.func10, Try.ntmps10
  go_wp2_with (first | (go_at_call 14; refine (bits_any _ _ _ (by assumption) (by decide) (by decide) (by decide) _).mono ?_; rintro _ _ ⟨rfl, m_, rfl⟩) | (go_at_call 15; refine (rd_any _ (by assumption) _).mono ?_; rintro _ _ ⟨rfl, m_, rfl⟩) | (go_at_call 18; refine (f3_any _ (by assumption) _).mono ?_; rintro _ _ ⟨rfl, m_, rfl⟩) | (go_at_call 19; refine (rs1_any _ (by assumption) _).mono ?_; rintro _ _ ⟨rfl, m_, rfl⟩) | (go_at_call 20; refine (immI_any _ (by assumption) _).mono ?_; rintro _ _ ⟨rfl, m_, rfl⟩) | (go_at_call 22; refine (rs2_any _ (by assumption) _).mono ?_; rintro _ _ ⟨rfl, m_, rfl⟩) | (go_at_call 25; refine (immS_any _ (by assumption) _).mono ?_; rintro _ _ ⟨rfl, m_, rfl⟩) | (go_at_call 16; refine (immU_any _ (by assumption) _).mono ?_; rintro _ _ ⟨rfl, m_, rfl⟩) | (go_at_call 17; refine (immJ_any _ (by assumption) _).mono ?_; rintro _ _ ⟨rfl, m_, rfl⟩) | (go_at_call 23; refine (immB_any _ (by assumption) _).mono ?_; rintro _ _ ⟨rfl, m_, rfl⟩) | (go_at_call 21; refine (branches_any _).mono ?_; rintro _ _ ⟨rfl, o_, rfl⟩) | (go_at_call 24; refine (loads_any _).mono ?_; rintro _ _ ⟨rfl, o_, rfl⟩))
  refine fin25 2 rfl rfl rfl ⟨_, hpt, rfl, ?_, ?_⟩
  · rw [unhide hl]; rfl
  · exact gnt
set_option maxRecDepth 100000 in
set_option maxHeartbeats 4000000 in
theorem dec_16 (b : Nat) (hb : b < 4294967296) (f : Nat) (rd r1 r2 : Nat) (hop : fd b 0 7 = 51) (hf : fd b 12 3 = f) (hrd : fd b 7 5 = rd) (hr1 : fd b 15 5 = r1) (hr2 : fd b 20 5 = r2) (w : World) : Calls Try.prog 10 #[.int .u32 b] w fun r w' => r = .returned (insV (decK b 51 f rd r1 r2)) ∧ GN w w'  := by
  have hf8 : f < 8 := hf ▸ fd_lt b 12 3
  have hf' := hide hf
  have hrd' := hide hrd
  have hr1' := hide hr1
  have hr2' := hide hr2
  have tt := True.intro
  have hl := hide (show decK b 51 f rd r1 r2 = regK f (fd b 25 7) rd r1 r2 false from by simp [decK])
  go_enter Try.func10, Try.ntmps10
  go_wp2_with (first | (go_at_call 14; refine (bits_any _ _ _ (by assumption) (by decide) (by decide) (by decide) _).mono ?_; rintro _ _ ⟨rfl, m_, rfl⟩) | (go_at_call 15; refine (rd_any _ (by assumption) _).mono ?_; rintro _ _ ⟨rfl, m_, rfl⟩) | (go_at_call 18; refine (f3_any _ (by assumption) _).mono ?_; rintro _ _ ⟨rfl, m_, rfl⟩) | (go_at_call 19; refine (rs1_any _ (by assumption) _).mono ?_; rintro _ _ ⟨rfl, m_, rfl⟩) | (go_at_call 20; refine (immI_any _ (by assumption) _).mono ?_; rintro _ _ ⟨rfl, m_, rfl⟩) | (go_at_call 22; refine (rs2_any _ (by assumption) _).mono ?_; rintro _ _ ⟨rfl, m_, rfl⟩) | (go_at_call 25; refine (immS_any _ (by assumption) _).mono ?_; rintro _ _ ⟨rfl, m_, rfl⟩) | (go_at_call 16; refine (immU_any _ (by assumption) _).mono ?_; rintro _ _ ⟨rfl, m_, rfl⟩) | (go_at_call 17; refine (immJ_any _ (by assumption) _).mono ?_; rintro _ _ ⟨rfl, m_, rfl⟩) | (go_at_call 23; refine (immB_any _ (by assumption) _).mono ?_; rintro _ _ ⟨rfl, m_, rfl⟩) | (go_at_call 21; refine (branches_any _).mono ?_; rintro _ _ ⟨rfl, o_, rfl⟩) | (go_at_call 24; refine (loads_any _).mono ?_; rintro _ _ ⟨rfl, o_, rfl⟩) | (go_at_call 27; refine (ag_of (registers_any _ (by assumption) _ _)).mono ?_; rintro _ w27 ⟨y, hy, rfl, hq⟩; have hgn : GN w w27 := GN.trans gnt hq; have hz := hp_gn hq (g := w.heap.size) (o := .cells #[.int .i64 0, .int .i64 0, .int .i64 0, .int .i64 0, .int .i64 0, .int .i64 0, .int .i64 0, .int .i64 0, .int .i64 0, .bool false, .bool false, .bool false] 25) hpt; obtain ⟨⟨p0, q0⟩, ⟨p1, q1⟩, ⟨p2, q2⟩, ⟨p3, q3⟩, ⟨p4, q4⟩, ⟨p5, q5⟩, ⟨p6, q6⟩, ⟨p7, q7⟩, ⟨p8, q8⟩, ⟨p9, q9⟩, ⟨p10, q10⟩, ⟨p11, q11⟩⟩ := c12 hz; clear hq))
  refine fin25 2 rfl rfl rfl ⟨_, hpt, rfl, ?_, ?_⟩
  · rw [unhide hl, ← unhide hf', ← unhide hrd', ← unhide hr1', ← unhide hr2', unhide hy]; rfl
  · exact gnt
set_option maxRecDepth 100000 in
set_option maxHeartbeats 4000000 in
theorem dec_20 (b : Nat) (hb : b < 4294967296) (f : Nat) (rd r1 r2 : Nat) (hop : fd b 0 7 = 115) (hf : fd b 12 3 = f) (hrd : fd b 7 5 = rd) (hr1 : fd b 15 5 = r1) (hr2 : fd b 20 5 = r2) (w : World) : Calls Try.prog 10 #[.int .u32 b] w fun r w' => r = .returned (insV (decK b 115 f rd r1 r2)) ∧ GN w w'  := by
  have hf8 : f < 8 := hf ▸ fd_lt b 12 3
  have hf' := hide hf
  have hrd' := hide hrd
  have hr1' := hide hr1
  have hr2' := hide hr2
  have tt := True.intro
  have hl := hide (show decK b 115 f rd r1 r2 = sysK b f (fd b 25 7) rd r1 r2 (fd b 20 12) from by simp [decK])
  go_enter Try.func10, Try.ntmps10
  go_wp2_with (first | (go_at_call 14; refine (bits_any _ _ _ (by assumption) (by decide) (by decide) (by decide) _).mono ?_; rintro _ _ ⟨rfl, m_, rfl⟩) | (go_at_call 15; refine (rd_any _ (by assumption) _).mono ?_; rintro _ _ ⟨rfl, m_, rfl⟩) | (go_at_call 18; refine (f3_any _ (by assumption) _).mono ?_; rintro _ _ ⟨rfl, m_, rfl⟩) | (go_at_call 19; refine (rs1_any _ (by assumption) _).mono ?_; rintro _ _ ⟨rfl, m_, rfl⟩) | (go_at_call 20; refine (immI_any _ (by assumption) _).mono ?_; rintro _ _ ⟨rfl, m_, rfl⟩) | (go_at_call 22; refine (rs2_any _ (by assumption) _).mono ?_; rintro _ _ ⟨rfl, m_, rfl⟩) | (go_at_call 25; refine (immS_any _ (by assumption) _).mono ?_; rintro _ _ ⟨rfl, m_, rfl⟩) | (go_at_call 16; refine (immU_any _ (by assumption) _).mono ?_; rintro _ _ ⟨rfl, m_, rfl⟩) | (go_at_call 17; refine (immJ_any _ (by assumption) _).mono ?_; rintro _ _ ⟨rfl, m_, rfl⟩) | (go_at_call 23; refine (immB_any _ (by assumption) _).mono ?_; rintro _ _ ⟨rfl, m_, rfl⟩) | (go_at_call 21; refine (branches_any _).mono ?_; rintro _ _ ⟨rfl, o_, rfl⟩) | (go_at_call 24; refine (loads_any _).mono ?_; rintro _ _ ⟨rfl, o_, rfl⟩) | (go_at_call 28; refine (ag_of (system_any _ (by assumption) _)).mono ?_; rintro _ w28 ⟨y, hy, rfl, hq⟩; have hgn : GN w w28 := GN.trans gnt hq; have hz := hp_gn hq (g := w.heap.size) (o := .cells #[.int .i64 0, .int .i64 0, .int .i64 0, .int .i64 0, .int .i64 0, .int .i64 0, .int .i64 0, .int .i64 0, .int .i64 0, .bool false, .bool false, .bool false] 25) hpt; obtain ⟨⟨p0, q0⟩, ⟨p1, q1⟩, ⟨p2, q2⟩, ⟨p3, q3⟩, ⟨p4, q4⟩, ⟨p5, q5⟩, ⟨p6, q6⟩, ⟨p7, q7⟩, ⟨p8, q8⟩, ⟨p9, q9⟩, ⟨p10, q10⟩, ⟨p11, q11⟩⟩ := c12 hz; clear hq))
  refine fin25 2 rfl rfl rfl ⟨_, hpt, rfl, ?_, ?_⟩
  · rw [unhide hl, ← unhide hf', ← unhide hrd', ← unhide hr1', ← unhide hr2', unhide hy]; rfl
  · exact gnt
end Go.Proofs.Ytopbdiekfhikmaa
namespace Go.Proofs.Ytopbdiekfhikmaa
open Go.RowKit
set_option maxRecDepth 100000 in
set_option maxHeartbeats 4000000 in
theorem dec_1 (b : Nat) (hb : b < 4294967296) (f : Nat) (rd r1 r2 : Nat) (hop : fd b 0 7 = 23) (hf : fd b 12 3 = f) (hrd : fd b 7 5 = rd) (hr1 : fd b 15 5 = r1) (hr2 : fd b 20 5 = r2) (w : World) : Calls Try.prog 10 #[.int .u32 b] w fun r w' => r = .returned (insV (decK b 23 f rd r1 r2)) ∧ GN w w'  := by
  have hf8 : f < 8 := hf ▸ fd_lt b 12 3
  have hf' := hide hf
  have hrd' := hide hrd
  have hr1' := hide hr1
  have hr2' := hide hr2
  have tt := True.intro
  have hl := hide (show decK b 23 f rd r1 r2 = (⟨2, rd, 0, 0, 0, 0, 0, 0, immU b, false, false, false⟩ : Ins) from by simp [decK])
  go_enter Try.func10, Try.ntmps10
  go_wp2_with (first | (go_at_call 14; refine (bits_any _ _ _ (by assumption) (by decide) (by decide) (by decide) _).mono ?_; rintro _ _ ⟨rfl, m_, rfl⟩) | (go_at_call 15; refine (rd_any _ (by assumption) _).mono ?_; rintro _ _ ⟨rfl, m_, rfl⟩) | (go_at_call 18; refine (f3_any _ (by assumption) _).mono ?_; rintro _ _ ⟨rfl, m_, rfl⟩) | (go_at_call 19; refine (rs1_any _ (by assumption) _).mono ?_; rintro _ _ ⟨rfl, m_, rfl⟩) | (go_at_call 20; refine (immI_any _ (by assumption) _).mono ?_; rintro _ _ ⟨rfl, m_, rfl⟩) | (go_at_call 22; refine (rs2_any _ (by assumption) _).mono ?_; rintro _ _ ⟨rfl, m_, rfl⟩) | (go_at_call 25; refine (immS_any _ (by assumption) _).mono ?_; rintro _ _ ⟨rfl, m_, rfl⟩) | (go_at_call 16; refine (immU_any _ (by assumption) _).mono ?_; rintro _ _ ⟨rfl, m_, rfl⟩) | (go_at_call 17; refine (immJ_any _ (by assumption) _).mono ?_; rintro _ _ ⟨rfl, m_, rfl⟩) | (go_at_call 23; refine (immB_any _ (by assumption) _).mono ?_; rintro _ _ ⟨rfl, m_, rfl⟩) | (go_at_call 21; refine (branches_any _).mono ?_; rintro _ _ ⟨rfl, o_, rfl⟩) | (go_at_call 24; refine (loads_any _).mono ?_; rintro _ _ ⟨rfl, o_, rfl⟩))
  refine fin25 2 rfl rfl rfl ⟨_, hpt, rfl, ?_, ?_⟩
  · rw [unhide hl]; rfl
  · exact gnt
set_option maxRecDepth 100000 in
set_option maxHeartbeats 4000000 in
theorem dec_5 (b : Nat) (hb : b < 4294967296) (f : Nat) (rd r1 r2 : Nat) (hop : fd b 0 7 = 99) (hf : fd b 12 3 = f) (hrd : fd b 7 5 = rd) (hr1 : fd b 15 5 = r1) (hr2 : fd b 20 5 = r2) (k0 : brK f = 0) (w : World) : Calls Try.prog 10 #[.int .u32 b] w fun r w' => r = .returned (insV (decK b 99 f rd r1 r2)) ∧ GN w w'  := by
  have hf8 : f < 8 := hf ▸ fd_lt b 12 3
  have hf' := hide hf
  have hrd' := hide hrd
  have hr1' := hide hr1
  have hr2' := hide hr2
  have i1 := ix_branches f f rfl hf8
  obtain ⟨k, hk⟩ : ∃ k, brK f = k := ⟨_, rfl⟩
  rw [hk] at i1 k0
  have Hk := hide hk
  clear hk
  subst k0
  have hl := hide (show decK b 99 f rd r1 r2 = fallN (floatN b) from by simp [decK, unhide Hk])
  go_enter Try.func10, Try.ntmps10
  go_upto_region 40 with (first | (go_at_call 14; refine (bits_any _ _ _ (by assumption) (by decide) (by decide) (by decide) _).mono ?_; rintro _ _ ⟨rfl, m_, rfl⟩) | (go_at_call 15; refine (rd_any _ (by assumption) _).mono ?_; rintro _ _ ⟨rfl, m_, rfl⟩) | (go_at_call 18; refine (f3_any _ (by assumption) _).mono ?_; rintro _ _ ⟨rfl, m_, rfl⟩) | (go_at_call 19; refine (rs1_any _ (by assumption) _).mono ?_; rintro _ _ ⟨rfl, m_, rfl⟩) | (go_at_call 20; refine (immI_any _ (by assumption) _).mono ?_; rintro _ _ ⟨rfl, m_, rfl⟩) | (go_at_call 22; refine (rs2_any _ (by assumption) _).mono ?_; rintro _ _ ⟨rfl, m_, rfl⟩) | (go_at_call 25; refine (immS_any _ (by assumption) _).mono ?_; rintro _ _ ⟨rfl, m_, rfl⟩) | (go_at_call 16; refine (immU_any _ (by assumption) _).mono ?_; rintro _ _ ⟨rfl, m_, rfl⟩) | (go_at_call 17; refine (immJ_any _ (by assumption) _).mono ?_; rintro _ _ ⟨rfl, m_, rfl⟩) | (go_at_call 23; refine (immB_any _ (by assumption) _).mono ?_; rintro _ _ ⟨rfl, m_, rfl⟩) | (go_at_call 21; refine (branches_any _).mono ?_; rintro _ _ ⟨rfl, o_, rfl⟩) | (go_at_call 24; refine (loads_any _).mono ?_; rintro _ _ ⟨rfl, o_, rfl⟩))
  go_at_call 30
  refine (ag_of (float_any _ (by assumption) _)).mono ?_
  rintro _ w30 ⟨y, hy, rfl, hq⟩
  have hgn : GN w w30 := GN.trans gnt hq
  have hz := hp_gn hq (g := w.heap.size) (o := .cells #[.int .i64 0, .int .i64 0, .int .i64 0, .int .i64 0, .int .i64 0, .int .i64 0, .int .i64 0, .int .i64 0, .int .i64 0, .bool false, .bool false, .bool false] 25) hpt
  have hz4 := hp_gn hq (g := w.heap.size + 1) (o := .cells #[.int .i64 0, .int .i64 0, .int .i64 0, .int .i64 0, .int .i64 0, .int .i64 0, .int .i64 0, .int .i64 0, .int .i64 0, .bool false, .bool false, .bool false] 25) hpt
  obtain ⟨⟨p0, q0⟩, ⟨p1, q1⟩, ⟨p2, q2⟩, ⟨p3, q3⟩, ⟨p4, q4⟩, ⟨p5, q5⟩, ⟨p6, q6⟩, ⟨p7, q7⟩, ⟨p8, q8⟩, ⟨p9, q9⟩, ⟨p10, q10⟩, ⟨p11, q11⟩⟩ := c12 hz
  obtain ⟨⟨p40, q40⟩, ⟨p41, q41⟩, ⟨p42, q42⟩, ⟨p43, q43⟩, ⟨p44, q44⟩, ⟨p45, q45⟩, ⟨p46, q46⟩, ⟨p47, q47⟩, ⟨p48, q48⟩, ⟨p49, q49⟩, ⟨p410, q410⟩, ⟨p411, q411⟩⟩ := c12 hz4
  have l1 := lt_of_heap' hz
  have l2 := lt_of_heap' hz4
  have m1 : w30.heap.size ≠ w.heap.size := by omega
  have m2 : w30.heap.size ≠ w.heap.size + 1 := by omega
  have m3 := m1.symm
  have m4 := m2.symm
  have hwg : w.heap.size ≤ w30.heap.size := by omega
  clear hq
  go_upto_region 40 with fail
  obtain ⟨k, rd3, q1_, q2_, q3_, q4_, q5_, q6_, q7_, u1_, u2_, u3_⟩ := y
  have hk : k = 0 ∨ k ≠ 0 := by omega
  rcases hk with rfl | hk
  · have tt := True.intro
    go_wp2_with fail
    refine fin25 2 rfl rfl rfl ⟨_, hpt, rfl, ?_, ?_⟩
    · rw [unhide hl]; unfold fallN; rw [show floatN b = _ from unhide hy, if_pos rfl]; rfl
    · exact gnt
  · have nk := ne_t hk
    go_wp2_with fail
    refine fin25 2 rfl rfl rfl ⟨_, hpt, rfl, ?_, ?_⟩
    · rw [unhide hl]; unfold fallN; rw [show floatN b = _ from unhide hy, if_neg hk]; rfl
    · exact gnt
set_option maxRecDepth 100000 in
set_option maxHeartbeats 4000000 in
theorem dec_9 (b : Nat) (hb : b < 4294967296) (rd r1 r2 : Nat) (hop : fd b 0 7 = 35) (hf : fd b 12 3 = 0) (hrd : fd b 7 5 = rd) (hr1 : fd b 15 5 = r1) (hr2 : fd b 20 5 = r2) (w : World) : Calls Try.prog 10 #[.int .u32 b] w fun r w' => r = .returned (insV (decK b 35 0 rd r1 r2)) ∧ GN w w'  := by
  have hf' := hide hf
  have hrd' := hide hrd
  have hr1' := hide hr1
  have hr2' := hide hr2
  have tt := True.intro
  have hl := hide (show decK b 35 0 rd r1 r2 = (⟨12, 0, r1, r2, 0, 0, 0, 1, immS b, false, false, false⟩ : Ins) from by simp [decK])
  go_enter Try.func10, Try.ntmps10
  go_wp2_with (first | (go_at_call 14; refine (bits_any _ _ _ (by assumption) (by decide) (by decide) (by decide) _).mono ?_; rintro _ _ ⟨rfl, m_, rfl⟩) | (go_at_call 15; refine (rd_any _ (by assumption) _).mono ?_; rintro _ _ ⟨rfl, m_, rfl⟩) | (go_at_call 18; refine (f3_any _ (by assumption) _).mono ?_; rintro _ _ ⟨rfl, m_, rfl⟩) | (go_at_call 19; refine (rs1_any _ (by assumption) _).mono ?_; rintro _ _ ⟨rfl, m_, rfl⟩) | (go_at_call 20; refine (immI_any _ (by assumption) _).mono ?_; rintro _ _ ⟨rfl, m_, rfl⟩) | (go_at_call 22; refine (rs2_any _ (by assumption) _).mono ?_; rintro _ _ ⟨rfl, m_, rfl⟩) | (go_at_call 25; refine (immS_any _ (by assumption) _).mono ?_; rintro _ _ ⟨rfl, m_, rfl⟩) | (go_at_call 16; refine (immU_any _ (by assumption) _).mono ?_; rintro _ _ ⟨rfl, m_, rfl⟩) | (go_at_call 17; refine (immJ_any _ (by assumption) _).mono ?_; rintro _ _ ⟨rfl, m_, rfl⟩) | (go_at_call 23; refine (immB_any _ (by assumption) _).mono ?_; rintro _ _ ⟨rfl, m_, rfl⟩) | (go_at_call 21; refine (branches_any _).mono ?_; rintro _ _ ⟨rfl, o_, rfl⟩) | (go_at_call 24; refine (loads_any _).mono ?_; rintro _ _ ⟨rfl, o_, rfl⟩))
  refine fin25 2 rfl rfl rfl ⟨_, hpt, rfl, ?_, ?_⟩
  · rw [unhide hl]; rfl
  · exact gnt
set_option maxRecDepth 100000 in
set_option maxHeartbeats 4000000 in
theorem dec_13 (b : Nat) (hb : b < 4294967296) (f : Nat) (rd r1 r2 : Nat) (hop : fd b 0 7 = 35) (hf : fd b 12 3 = f) (hrd : fd b 7 5 = rd) (hr1 : fd b 15 5 = r1) (hr2 : fd b 20 5 = r2) (f4 : ¬ f < 4) (w : World) : Calls Try.prog 10 #[.int .u32 b] w fun r w' => r = .returned (insV (decK b 35 f rd r1 r2)) ∧ GN w w'  := by
  have hf8 : f < 8 := hf ▸ fd_lt b 12 3
  have hf' := hide hf
  have hrd' := hide hrd
  have hr1' := hide hr1
  have hr2' := hide hr2
  have z4 : ¬ (f : Int) < 4 := by omega
  have hl := hide (show decK b 35 f rd r1 r2 = fallN (floatN b) from by simp [decK, f4])
  go_enter Try.func10, Try.ntmps10
  go_upto_region 40 with (first | (go_at_call 14; refine (bits_any _ _ _ (by assumption) (by decide) (by decide) (by decide) _).mono ?_; rintro _ _ ⟨rfl, m_, rfl⟩) | (go_at_call 15; refine (rd_any _ (by assumption) _).mono ?_; rintro _ _ ⟨rfl, m_, rfl⟩) | (go_at_call 18; refine (f3_any _ (by assumption) _).mono ?_; rintro _ _ ⟨rfl, m_, rfl⟩) | (go_at_call 19; refine (rs1_any _ (by assumption) _).mono ?_; rintro _ _ ⟨rfl, m_, rfl⟩) | (go_at_call 20; refine (immI_any _ (by assumption) _).mono ?_; rintro _ _ ⟨rfl, m_, rfl⟩) | (go_at_call 22; refine (rs2_any _ (by assumption) _).mono ?_; rintro _ _ ⟨rfl, m_, rfl⟩) | (go_at_call 25; refine (immS_any _ (by assumption) _).mono ?_; rintro _ _ ⟨rfl, m_, rfl⟩) | (go_at_call 16; refine (immU_any _ (by assumption) _).mono ?_; rintro _ _ ⟨rfl, m_, rfl⟩) | (go_at_call 17; refine (immJ_any _ (by assumption) _).mono ?_; rintro _ _ ⟨rfl, m_, rfl⟩) | (go_at_call 23; refine (immB_any _ (by assumption) _).mono ?_; rintro _ _ ⟨rfl, m_, rfl⟩) | (go_at_call 21; refine (branches_any _).mono ?_; rintro _ _ ⟨rfl, o_, rfl⟩) | (go_at_call 24; refine (loads_any _).mono ?_; rintro _ _ ⟨rfl, o_, rfl⟩))
  go_at_call 30
  refine (ag_of (float_any _ (by assumption) _)).mono ?_
  rintro _ w30 ⟨y, hy, rfl, hq⟩
  have hgn : GN w w30 := GN.trans gnt hq
  have hz := hp_gn hq (g := w.heap.size) (o := .cells #[.int .i64 0, .int .i64 0, .int .i64 0, .int .i64 0, .int .i64 0, .int .i64 0, .int .i64 0, .int .i64 0, .int .i64 0, .bool false, .bool false, .bool false] 25) hpt
  have hz4 := hp_gn hq (g := w.heap.size + 1) (o := .cells #[.int .i64 0, .int .i64 0, .int .i64 0, .int .i64 0, .int .i64 0, .int .i64 0, .int .i64 0, .int .i64 0, .int .i64 0, .bool false, .bool false, .bool false] 25) hpt
  obtain ⟨⟨p0, q0⟩, ⟨p1, q1⟩, ⟨p2, q2⟩, ⟨p3, q3⟩, ⟨p4, q4⟩, ⟨p5, q5⟩, ⟨p6, q6⟩, ⟨p7, q7⟩, ⟨p8, q8⟩, ⟨p9, q9⟩, ⟨p10, q10⟩, ⟨p11, q11⟩⟩ := c12 hz
  obtain ⟨⟨p40, q40⟩, ⟨p41, q41⟩, ⟨p42, q42⟩, ⟨p43, q43⟩, ⟨p44, q44⟩, ⟨p45, q45⟩, ⟨p46, q46⟩, ⟨p47, q47⟩, ⟨p48, q48⟩, ⟨p49, q49⟩, ⟨p410, q410⟩, ⟨p411, q411⟩⟩ := c12 hz4
  have l1 := lt_of_heap' hz
  have l2 := lt_of_heap' hz4
  have m1 : w30.heap.size ≠ w.heap.size := by omega
  have m2 : w30.heap.size ≠ w.heap.size + 1 := by omega
  have m3 := m1.symm
  have m4 := m2.symm
  have hwg : w.heap.size ≤ w30.heap.size := by omega
  clear hq
  go_upto_region 40 with fail
  obtain ⟨k, rd3, q1_, q2_, q3_, q4_, q5_, q6_, q7_, u1_, u2_, u3_⟩ := y
  have hk : k = 0 ∨ k ≠ 0 := by omega
  rcases hk with rfl | hk
  · have tt := True.intro
    go_wp2_with fail
    refine fin25 2 rfl rfl rfl ⟨_, hpt, rfl, ?_, ?_⟩
    · rw [unhide hl]; unfold fallN; rw [show floatN b = _ from unhide hy, if_pos rfl]; rfl
    · exact gnt
  · have nk := ne_t hk
    go_wp2_with fail
    refine fin25 2 rfl rfl rfl ⟨_, hpt, rfl, ?_, ?_⟩
    · rw [unhide hl]; unfold fallN; rw [show floatN b = _ from unhide hy, if_neg hk]; rfl
    · exact gnt
set_option maxRecDepth 100000 in
set_option maxHeartbeats 4000000 in
theorem dec_17 (b : Nat) (hb : b < 4294967296) (f : Nat) (rd r1 r2 : Nat) (hop : fd b 0 7 = 59) (hf : fd b 12 3 = f) (hrd : fd b 7 5 = rd) (hr1 : fd b 15 5 = r1) (hr2 : fd b 20 5 = r2) (w : World) : Calls Try.prog 10 #[.int .u32 b] w fun r w' => r = .returned (insV (decK b 59 f rd r1 r2)) ∧ GN w w'  := by
  have hf8 : f < 8 := hf ▸ fd_lt b 12 3
  have hf' := hide hf
  have hrd' := hide hrd
  have hr1' := hide hr1
  have hr2' := hide hr2
  have tt := True.intro
  have hl := hide (show decK b 59 f rd r1 r2 = regK f (fd b 25 7) rd r1 r2 true from by simp [decK])
  go_enter Try.func10, Try.ntmps10
  go_wp2_with (first | (go_at_call 14; refine (bits_any _ _ _ (by assumption) (by decide) (by decide) (by decide) _).mono ?_; rintro _ _ ⟨rfl, m_, rfl⟩) | (go_at_call 15; refine (rd_any _ (by assumption) _).mono ?_; rintro _ _ ⟨rfl, m_, rfl⟩) | (go_at_call 18; refine (f3_any _ (by assumption) _).mono ?_; rintro _ _ ⟨rfl, m_, rfl⟩) | (go_at_call 19; refine (rs1_any _ (by assumption) _).mono ?_; rintro _ _ ⟨rfl, m_, rfl⟩) | (go_at_call 20; refine (immI_any _ (by assumption) _).mono ?_; rintro _ _ ⟨rfl, m_, rfl⟩) | (go_at_call 22; refine (rs2_any _ (by assumption) _).mono ?_; rintro _ _ ⟨rfl, m_, rfl⟩) | (go_at_call 25; refine (immS_any _ (by assumption) _).mono ?_; rintro _ _ ⟨rfl, m_, rfl⟩) | (go_at_call 16; refine (immU_any _ (by assumption) _).mono ?_; rintro _ _ ⟨rfl, m_, rfl⟩) | (go_at_call 17; refine (immJ_any _ (by assumption) _).mono ?_; rintro _ _ ⟨rfl, m_, rfl⟩) | (go_at_call 23; refine (immB_any _ (by assumption) _).mono ?_; rintro _ _ ⟨rfl, m_, rfl⟩) | (go_at_call 21; refine (branches_any _).mono ?_; rintro _ _ ⟨rfl, o_, rfl⟩) | (go_at_call 24; refine (loads_any _).mono ?_; rintro _ _ ⟨rfl, o_, rfl⟩) | (go_at_call 27; refine (ag_of (registers_any _ (by assumption) _ _)).mono ?_; rintro _ w27 ⟨y, hy, rfl, hq⟩; have hgn : GN w w27 := GN.trans gnt hq; have hz := hp_gn hq (g := w.heap.size) (o := .cells #[.int .i64 0, .int .i64 0, .int .i64 0, .int .i64 0, .int .i64 0, .int .i64 0, .int .i64 0, .int .i64 0, .int .i64 0, .bool false, .bool false, .bool false] 25) hpt; obtain ⟨⟨p0, q0⟩, ⟨p1, q1⟩, ⟨p2, q2⟩, ⟨p3, q3⟩, ⟨p4, q4⟩, ⟨p5, q5⟩, ⟨p6, q6⟩, ⟨p7, q7⟩, ⟨p8, q8⟩, ⟨p9, q9⟩, ⟨p10, q10⟩, ⟨p11, q11⟩⟩ := c12 hz; clear hq))
  refine fin25 2 rfl rfl rfl ⟨_, hpt, rfl, ?_, ?_⟩
  · rw [unhide hl, ← unhide hf', ← unhide hrd', ← unhide hr1', ← unhide hr2', unhide hy]; rfl
  · exact gnt
set_option maxRecDepth 100000 in
set_option maxHeartbeats 4000000 in
theorem dec_21 (b : Nat) (hb : b < 4294967296) (f : Nat) (rd r1 r2 : Nat) (hop : fd b 0 7 = 47) (hf : fd b 12 3 = f) (hrd : fd b 7 5 = rd) (hr1 : fd b 15 5 = r1) (hr2 : fd b 20 5 = r2) (w : World) : Calls Try.prog 10 #[.int .u32 b] w fun r w' => r = .returned (insV (decK b 47 f rd r1 r2)) ∧ GN w w'  := by
  have hf8 : f < 8 := hf ▸ fd_lt b 12 3
  have hf' := hide hf
  have hrd' := hide hrd
  have hr1' := hide hr1
  have hr2' := hide hr2
  have tt := True.intro
  have hl := hide (show decK b 47 f rd r1 r2 = atomI f (fd b 27 5) rd r1 r2 from by simp [decK])
  go_enter Try.func10, Try.ntmps10
  go_wp2_with (first | (go_at_call 14; refine (bits_any _ _ _ (by assumption) (by decide) (by decide) (by decide) _).mono ?_; rintro _ _ ⟨rfl, m_, rfl⟩) | (go_at_call 15; refine (rd_any _ (by assumption) _).mono ?_; rintro _ _ ⟨rfl, m_, rfl⟩) | (go_at_call 18; refine (f3_any _ (by assumption) _).mono ?_; rintro _ _ ⟨rfl, m_, rfl⟩) | (go_at_call 19; refine (rs1_any _ (by assumption) _).mono ?_; rintro _ _ ⟨rfl, m_, rfl⟩) | (go_at_call 20; refine (immI_any _ (by assumption) _).mono ?_; rintro _ _ ⟨rfl, m_, rfl⟩) | (go_at_call 22; refine (rs2_any _ (by assumption) _).mono ?_; rintro _ _ ⟨rfl, m_, rfl⟩) | (go_at_call 25; refine (immS_any _ (by assumption) _).mono ?_; rintro _ _ ⟨rfl, m_, rfl⟩) | (go_at_call 16; refine (immU_any _ (by assumption) _).mono ?_; rintro _ _ ⟨rfl, m_, rfl⟩) | (go_at_call 17; refine (immJ_any _ (by assumption) _).mono ?_; rintro _ _ ⟨rfl, m_, rfl⟩) | (go_at_call 23; refine (immB_any _ (by assumption) _).mono ?_; rintro _ _ ⟨rfl, m_, rfl⟩) | (go_at_call 21; refine (branches_any _).mono ?_; rintro _ _ ⟨rfl, o_, rfl⟩) | (go_at_call 24; refine (loads_any _).mono ?_; rintro _ _ ⟨rfl, o_, rfl⟩) | (go_at_call 29; refine (ag_of (atomic_any _ (by assumption) _)).mono ?_; rintro _ w29 ⟨y, hy, rfl, hq⟩; have hgn : GN w w29 := GN.trans gnt hq; have hz := hp_gn hq (g := w.heap.size) (o := .cells #[.int .i64 0, .int .i64 0, .int .i64 0, .int .i64 0, .int .i64 0, .int .i64 0, .int .i64 0, .int .i64 0, .int .i64 0, .bool false, .bool false, .bool false] 25) hpt; obtain ⟨⟨p0, q0⟩, ⟨p1, q1⟩, ⟨p2, q2⟩, ⟨p3, q3⟩, ⟨p4, q4⟩, ⟨p5, q5⟩, ⟨p6, q6⟩, ⟨p7, q7⟩, ⟨p8, q8⟩, ⟨p9, q9⟩, ⟨p10, q10⟩, ⟨p11, q11⟩⟩ := c12 hz; clear hq))
  refine fin25 2 rfl rfl rfl ⟨_, hpt, rfl, ?_, ?_⟩
  · rw [unhide hl, ← unhide hf', ← unhide hrd', ← unhide hr1', ← unhide hr2', unhide hy]; rfl
  · exact gnt
end Go.Proofs.Ytopbdiekfhikmaa
namespace Go.Proofs.Ytopbdiekfhikmaa
open Go.RowKit
set_option maxRecDepth 100000 in
set_option maxHeartbeats 4000000 in
theorem dec_2 (b : Nat) (hb : b < 4294967296) (f : Nat) (rd r1 r2 : Nat) (hop : fd b 0 7 = 111) (hf : fd b 12 3 = f) (hrd : fd b 7 5 = rd) (hr1 : fd b 15 5 = r1) (hr2 : fd b 20 5 = r2) (w : World) : Calls Try.prog 10 #[.int .u32 b] w fun r w' => r = .returned (insV (decK b 111 f rd r1 r2)) ∧ GN w w'  := by
  have hf8 : f < 8 := hf ▸ fd_lt b 12 3
  have hf' := hide hf
  have hrd' := hide hrd
  have hr1' := hide hr1
  have hr2' := hide hr2
  have tt := True.intro
  have hl := hide (show decK b 111 f rd r1 r2 = (⟨3, rd, 0, 0, 0, 0, 0, 0, immJ b, false, false, false⟩ : Ins) from by simp [decK])
  go_enter Try.func10, Try.ntmps10
  go_wp2_with (first | (go_at_call 14; refine (bits_any _ _ _ (by assumption) (by decide) (by decide) (by decide) _).mono ?_; rintro _ _ ⟨rfl, m_, rfl⟩) | (go_at_call 15; refine (rd_any _ (by assumption) _).mono ?_; rintro _ _ ⟨rfl, m_, rfl⟩) | (go_at_call 18; refine (f3_any _ (by assumption) _).mono ?_; rintro _ _ ⟨rfl, m_, rfl⟩) | (go_at_call 19; refine (rs1_any _ (by assumption) _).mono ?_; rintro _ _ ⟨rfl, m_, rfl⟩) | (go_at_call 20; refine (immI_any _ (by assumption) _).mono ?_; rintro _ _ ⟨rfl, m_, rfl⟩) | (go_at_call 22; refine (rs2_any _ (by assumption) _).mono ?_; rintro _ _ ⟨rfl, m_, rfl⟩) | (go_at_call 25; refine (immS_any _ (by assumption) _).mono ?_; rintro _ _ ⟨rfl, m_, rfl⟩) | (go_at_call 16; refine (immU_any _ (by assumption) _).mono ?_; rintro _ _ ⟨rfl, m_, rfl⟩) | (go_at_call 17; refine (immJ_any _ (by assumption) _).mono ?_; rintro _ _ ⟨rfl, m_, rfl⟩) | (go_at_call 23; refine (immB_any _ (by assumption) _).mono ?_; rintro _ _ ⟨rfl, m_, rfl⟩) | (go_at_call 21; refine (branches_any _).mono ?_; rintro _ _ ⟨rfl, o_, rfl⟩) | (go_at_call 24; refine (loads_any _).mono ?_; rintro _ _ ⟨rfl, o_, rfl⟩))
  refine fin25 2 rfl rfl rfl ⟨_, hpt, rfl, ?_, ?_⟩
  · rw [unhide hl]; rfl
  · exact gnt
set_option maxRecDepth 100000 in
set_option maxHeartbeats 4000000 in
theorem dec_6 (b : Nat) (hb : b < 4294967296) (f : Nat) (rd r1 r2 : Nat) (hop : fd b 0 7 = 99) (hf : fd b 12 3 = f) (hrd : fd b 7 5 = rd) (hr1 : fd b 15 5 = r1) (hr2 : fd b 20 5 = r2) (k0 : brK f ≠ 0) (w : World) : Calls Try.prog 10 #[.int .u32 b] w fun r w' => r = .returned (insV (decK b 99 f rd r1 r2)) ∧ GN w w'  := by
  have hf8 : f < 8 := hf ▸ fd_lt b 12 3
  have hf' := hide hf
  have hrd' := hide hrd
  have hr1' := hide hr1
  have hr2' := hide hr2
  have i1 := ix_branches f f rfl hf8
  obtain ⟨k, hk⟩ : ∃ k, brK f = k := ⟨_, rfl⟩
  rw [hk] at i1 k0
  have Hk := hide hk
  clear hk
  have nk := ne_t k0
  have hl := hide (show decK b 99 f rd r1 r2 = (⟨k, 0, r1, r2, 0, 0, 0, 0, immB b, false, false, false⟩ : Ins) from by simp [decK, unhide Hk, k0])
  go_enter Try.func10, Try.ntmps10
  go_wp2_with (first | (go_at_call 14; refine (bits_any _ _ _ (by assumption) (by decide) (by decide) (by decide) _).mono ?_; rintro _ _ ⟨rfl, m_, rfl⟩) | (go_at_call 15; refine (rd_any _ (by assumption) _).mono ?_; rintro _ _ ⟨rfl, m_, rfl⟩) | (go_at_call 18; refine (f3_any _ (by assumption) _).mono ?_; rintro _ _ ⟨rfl, m_, rfl⟩) | (go_at_call 19; refine (rs1_any _ (by assumption) _).mono ?_; rintro _ _ ⟨rfl, m_, rfl⟩) | (go_at_call 20; refine (immI_any _ (by assumption) _).mono ?_; rintro _ _ ⟨rfl, m_, rfl⟩) | (go_at_call 22; refine (rs2_any _ (by assumption) _).mono ?_; rintro _ _ ⟨rfl, m_, rfl⟩) | (go_at_call 25; refine (immS_any _ (by assumption) _).mono ?_; rintro _ _ ⟨rfl, m_, rfl⟩) | (go_at_call 16; refine (immU_any _ (by assumption) _).mono ?_; rintro _ _ ⟨rfl, m_, rfl⟩) | (go_at_call 17; refine (immJ_any _ (by assumption) _).mono ?_; rintro _ _ ⟨rfl, m_, rfl⟩) | (go_at_call 23; refine (immB_any _ (by assumption) _).mono ?_; rintro _ _ ⟨rfl, m_, rfl⟩) | (go_at_call 21; refine (branches_any _).mono ?_; rintro _ _ ⟨rfl, o_, rfl⟩) | (go_at_call 24; refine (loads_any _).mono ?_; rintro _ _ ⟨rfl, o_, rfl⟩))
  refine fin25 2 rfl rfl rfl ⟨_, hpt, rfl, ?_, ?_⟩
  · rw [unhide hl]; rfl
  · exact gnt
set_option maxRecDepth 100000 in
set_option maxHeartbeats 4000000 in
theorem dec_10 (b : Nat) (hb : b < 4294967296) (rd r1 r2 : Nat) (hop : fd b 0 7 = 35) (hf : fd b 12 3 = 1) (hrd : fd b 7 5 = rd) (hr1 : fd b 15 5 = r1) (hr2 : fd b 20 5 = r2) (w : World) : Calls Try.prog 10 #[.int .u32 b] w fun r w' => r = .returned (insV (decK b 35 1 rd r1 r2)) ∧ GN w w'  := by
  have hf' := hide hf
  have hrd' := hide hrd
  have hr1' := hide hr1
  have hr2' := hide hr2
  have tt := True.intro
  have hl := hide (show decK b 35 1 rd r1 r2 = (⟨12, 0, r1, r2, 0, 0, 0, 2, immS b, false, false, false⟩ : Ins) from by simp [decK])
  go_enter Try.func10, Try.ntmps10
  go_wp2_with (first | (go_at_call 14; refine (bits_any _ _ _ (by assumption) (by decide) (by decide) (by decide) _).mono ?_; rintro _ _ ⟨rfl, m_, rfl⟩) | (go_at_call 15; refine (rd_any _ (by assumption) _).mono ?_; rintro _ _ ⟨rfl, m_, rfl⟩) | (go_at_call 18; refine (f3_any _ (by assumption) _).mono ?_; rintro _ _ ⟨rfl, m_, rfl⟩) | (go_at_call 19; refine (rs1_any _ (by assumption) _).mono ?_; rintro _ _ ⟨rfl, m_, rfl⟩) | (go_at_call 20; refine (immI_any _ (by assumption) _).mono ?_; rintro _ _ ⟨rfl, m_, rfl⟩) | (go_at_call 22; refine (rs2_any _ (by assumption) _).mono ?_; rintro _ _ ⟨rfl, m_, rfl⟩) | (go_at_call 25; refine (immS_any _ (by assumption) _).mono ?_; rintro _ _ ⟨rfl, m_, rfl⟩) | (go_at_call 16; refine (immU_any _ (by assumption) _).mono ?_; rintro _ _ ⟨rfl, m_, rfl⟩) | (go_at_call 17; refine (immJ_any _ (by assumption) _).mono ?_; rintro _ _ ⟨rfl, m_, rfl⟩) | (go_at_call 23; refine (immB_any _ (by assumption) _).mono ?_; rintro _ _ ⟨rfl, m_, rfl⟩) | (go_at_call 21; refine (branches_any _).mono ?_; rintro _ _ ⟨rfl, o_, rfl⟩) | (go_at_call 24; refine (loads_any _).mono ?_; rintro _ _ ⟨rfl, o_, rfl⟩))
  refine fin25 2 rfl rfl rfl ⟨_, hpt, rfl, ?_, ?_⟩
  · rw [unhide hl]; rfl
  · exact gnt
set_option maxRecDepth 100000 in
set_option maxHeartbeats 4000000 in
theorem dec_14 (b : Nat) (hb : b < 4294967296) (f : Nat) (rd r1 r2 : Nat) (hop : fd b 0 7 = 19) (hf : fd b 12 3 = f) (hrd : fd b 7 5 = rd) (hr1 : fd b 15 5 = r1) (hr2 : fd b 20 5 = r2) (w : World) : Calls Try.prog 10 #[.int .u32 b] w fun r w' => r = .returned (insV (decK b 19 f rd r1 r2)) ∧ GN w w'  := by
  have hf8 : f < 8 := hf ▸ fd_lt b 12 3
  have hf' := hide hf
  have hrd' := hide hrd
  have hr1' := hide hr1
  have hr2' := hide hr2
  have tt := True.intro
  have hl := hide (show decK b 19 f rd r1 r2 = immK f (fd b 26 6) (fd b 20 6) rd r1 (immI b) false from by simp [decK])
  go_enter Try.func10, Try.ntmps10
  go_wp2_with (first | (go_at_call 14; refine (bits_any _ _ _ (by assumption) (by decide) (by decide) (by decide) _).mono ?_; rintro _ _ ⟨rfl, m_, rfl⟩) | (go_at_call 15; refine (rd_any _ (by assumption) _).mono ?_; rintro _ _ ⟨rfl, m_, rfl⟩) | (go_at_call 18; refine (f3_any _ (by assumption) _).mono ?_; rintro _ _ ⟨rfl, m_, rfl⟩) | (go_at_call 19; refine (rs1_any _ (by assumption) _).mono ?_; rintro _ _ ⟨rfl, m_, rfl⟩) | (go_at_call 20; refine (immI_any _ (by assumption) _).mono ?_; rintro _ _ ⟨rfl, m_, rfl⟩) | (go_at_call 22; refine (rs2_any _ (by assumption) _).mono ?_; rintro _ _ ⟨rfl, m_, rfl⟩) | (go_at_call 25; refine (immS_any _ (by assumption) _).mono ?_; rintro _ _ ⟨rfl, m_, rfl⟩) | (go_at_call 16; refine (immU_any _ (by assumption) _).mono ?_; rintro _ _ ⟨rfl, m_, rfl⟩) | (go_at_call 17; refine (immJ_any _ (by assumption) _).mono ?_; rintro _ _ ⟨rfl, m_, rfl⟩) | (go_at_call 23; refine (immB_any _ (by assumption) _).mono ?_; rintro _ _ ⟨rfl, m_, rfl⟩) | (go_at_call 21; refine (branches_any _).mono ?_; rintro _ _ ⟨rfl, o_, rfl⟩) | (go_at_call 24; refine (loads_any _).mono ?_; rintro _ _ ⟨rfl, o_, rfl⟩) | (go_at_call 26; refine (ag_of (immediate_any _ (by assumption) _ _)).mono ?_; rintro _ w26 ⟨y, hy, rfl, hq⟩; have hgn : GN w w26 := GN.trans gnt hq; have hz := hp_gn hq (g := w.heap.size) (o := .cells #[.int .i64 0, .int .i64 0, .int .i64 0, .int .i64 0, .int .i64 0, .int .i64 0, .int .i64 0, .int .i64 0, .int .i64 0, .bool false, .bool false, .bool false] 25) hpt; obtain ⟨⟨p0, q0⟩, ⟨p1, q1⟩, ⟨p2, q2⟩, ⟨p3, q3⟩, ⟨p4, q4⟩, ⟨p5, q5⟩, ⟨p6, q6⟩, ⟨p7, q7⟩, ⟨p8, q8⟩, ⟨p9, q9⟩, ⟨p10, q10⟩, ⟨p11, q11⟩⟩ := c12 hz; clear hq))
  refine fin25 2 rfl rfl rfl ⟨_, hpt, rfl, ?_, ?_⟩
  · rw [unhide hl, ← unhide hf', ← unhide hrd', ← unhide hr1', unhide hy]; rfl
  · exact gnt
set_option maxRecDepth 100000 in
set_option maxHeartbeats 4000000 in
theorem dec_18 (b : Nat) (hb : b < 4294967296) (f : Nat) (rd r1 r2 : Nat) (hop : fd b 0 7 = 15) (hf : fd b 12 3 = f) (hrd : fd b 7 5 = rd) (hr1 : fd b 15 5 = r1) (hr2 : fd b 20 5 = r2) (f2 : f < 2) (w : World) : Calls Try.prog 10 #[.int .u32 b] w fun r w' => r = .returned (insV (decK b 15 f rd r1 r2)) ∧ GN w w'  := by
  have hf8 : f < 8 := hf ▸ fd_lt b 12 3
  have hf' := hide hf
  have hrd' := hide hrd
  have hr1' := hide hr1
  have hr2' := hide hr2
  have z2 : (f : Int) < 2 := by omega
  have hl := hide (show decK b 15 f rd r1 r2 = ⟨(31 : Int) + f, 0, 0, 0, 0, 0, 0, 0, 0, false, false, false⟩ from by simp [decK, f2])
  go_enter Try.func10, Try.ntmps10
  go_wp2_with (first | (go_at_call 14; refine (bits_any _ _ _ (by assumption) (by decide) (by decide) (by decide) _).mono ?_; rintro _ _ ⟨rfl, m_, rfl⟩) | (go_at_call 15; refine (rd_any _ (by assumption) _).mono ?_; rintro _ _ ⟨rfl, m_, rfl⟩) | (go_at_call 18; refine (f3_any _ (by assumption) _).mono ?_; rintro _ _ ⟨rfl, m_, rfl⟩) | (go_at_call 19; refine (rs1_any _ (by assumption) _).mono ?_; rintro _ _ ⟨rfl, m_, rfl⟩) | (go_at_call 20; refine (immI_any _ (by assumption) _).mono ?_; rintro _ _ ⟨rfl, m_, rfl⟩) | (go_at_call 22; refine (rs2_any _ (by assumption) _).mono ?_; rintro _ _ ⟨rfl, m_, rfl⟩) | (go_at_call 25; refine (immS_any _ (by assumption) _).mono ?_; rintro _ _ ⟨rfl, m_, rfl⟩) | (go_at_call 16; refine (immU_any _ (by assumption) _).mono ?_; rintro _ _ ⟨rfl, m_, rfl⟩) | (go_at_call 17; refine (immJ_any _ (by assumption) _).mono ?_; rintro _ _ ⟨rfl, m_, rfl⟩) | (go_at_call 23; refine (immB_any _ (by assumption) _).mono ?_; rintro _ _ ⟨rfl, m_, rfl⟩) | (go_at_call 21; refine (branches_any _).mono ?_; rintro _ _ ⟨rfl, o_, rfl⟩) | (go_at_call 24; refine (loads_any _).mono ?_; rintro _ _ ⟨rfl, o_, rfl⟩))
  refine fin25 2 rfl rfl rfl ⟨_, hpt, rfl, ?_, ?_⟩
  · rw [unhide hl]; rfl
  · exact gnt
set_option maxRecDepth 100000 in
set_option maxHeartbeats 4000000 in
theorem dec_22 (b : Nat) (hb : b < 4294967296) (op f : Nat) (rd r1 r2 : Nat) (hop : fd b 0 7 = op) (hf : fd b 12 3 = f) (hrd : fd b 7 5 = rd) (hr1 : fd b 15 5 = r1) (hr2 : fd b 20 5 = r2) (n55 : op ≠ 55) (n23 : op ≠ 23) (n111 : op ≠ 111) (n103 : op ≠ 103) (n99 : op ≠ 99) (n3 : op ≠ 3) (n35 : op ≠ 35) (n19 : op ≠ 19) (n27 : op ≠ 27) (n51 : op ≠ 51) (n59 : op ≠ 59) (n15 : op ≠ 15) (n115 : op ≠ 115) (n47 : op ≠ 47) (w : World) : Calls Try.prog 10 #[.int .u32 b] w fun r w' => r = .returned (insV (decK b op f rd r1 r2)) ∧ GN w w'  := by
  have hf8 : f < 8 := hf ▸ fd_lt b 12 3
  have hf' := hide hf
  have hrd' := hide hrd
  have hr1' := hide hr1
  have hr2' := hide hr2
  have nn55 := ne_b (show ((op : Nat) : Int) ≠ 55 by omega)
  have nn23 := ne_b (show ((op : Nat) : Int) ≠ 23 by omega)
  have nn111 := ne_b (show ((op : Nat) : Int) ≠ 111 by omega)
  have nn103 := ne_b (show ((op : Nat) : Int) ≠ 103 by omega)
  have nn99 := ne_b (show ((op : Nat) : Int) ≠ 99 by omega)
  have nn3 := ne_b (show ((op : Nat) : Int) ≠ 3 by omega)
  have nn35 := ne_b (show ((op : Nat) : Int) ≠ 35 by omega)
  have nn19 := ne_b (show ((op : Nat) : Int) ≠ 19 by omega)
  have nn27 := ne_b (show ((op : Nat) : Int) ≠ 27 by omega)
  have nn51 := ne_b (show ((op : Nat) : Int) ≠ 51 by omega)
  have nn59 := ne_b (show ((op : Nat) : Int) ≠ 59 by omega)
  have nn15 := ne_b (show ((op : Nat) : Int) ≠ 15 by omega)
  have nn115 := ne_b (show ((op : Nat) : Int) ≠ 115 by omega)
  have nn47 := ne_b (show ((op : Nat) : Int) ≠ 47 by omega)
  have hl := hide (show decK b op f rd r1 r2 = fallN (floatN b) from by simp [decK, n55, n23, n111, n103, n99, n3, n35, n19, n27, n51, n59, n15, n115, n47])
  go_enter Try.func10, Try.ntmps10
  go_upto_region 40 with (first | (go_at_call 14; refine (bits_any _ _ _ (by assumption) (by decide) (by decide) (by decide) _).mono ?_; rintro _ _ ⟨rfl, m_, rfl⟩) | (go_at_call 15; refine (rd_any _ (by assumption) _).mono ?_; rintro _ _ ⟨rfl, m_, rfl⟩) | (go_at_call 18; refine (f3_any _ (by assumption) _).mono ?_; rintro _ _ ⟨rfl, m_, rfl⟩) | (go_at_call 19; refine (rs1_any _ (by assumption) _).mono ?_; rintro _ _ ⟨rfl, m_, rfl⟩) | (go_at_call 20; refine (immI_any _ (by assumption) _).mono ?_; rintro _ _ ⟨rfl, m_, rfl⟩) | (go_at_call 22; refine (rs2_any _ (by assumption) _).mono ?_; rintro _ _ ⟨rfl, m_, rfl⟩) | (go_at_call 25; refine (immS_any _ (by assumption) _).mono ?_; rintro _ _ ⟨rfl, m_, rfl⟩) | (go_at_call 16; refine (immU_any _ (by assumption) _).mono ?_; rintro _ _ ⟨rfl, m_, rfl⟩) | (go_at_call 17; refine (immJ_any _ (by assumption) _).mono ?_; rintro _ _ ⟨rfl, m_, rfl⟩) | (go_at_call 23; refine (immB_any _ (by assumption) _).mono ?_; rintro _ _ ⟨rfl, m_, rfl⟩) | (go_at_call 21; refine (branches_any _).mono ?_; rintro _ _ ⟨rfl, o_, rfl⟩) | (go_at_call 24; refine (loads_any _).mono ?_; rintro _ _ ⟨rfl, o_, rfl⟩))
  go_at_call 30
  refine (ag_of (float_any _ (by assumption) _)).mono ?_
  rintro _ w30 ⟨y, hy, rfl, hq⟩
  have hgn : GN w w30 := GN.trans gnt hq
  have hz := hp_gn hq (g := w.heap.size) (o := .cells #[.int .i64 0, .int .i64 0, .int .i64 0, .int .i64 0, .int .i64 0, .int .i64 0, .int .i64 0, .int .i64 0, .int .i64 0, .bool false, .bool false, .bool false] 25) hpt
  have hz4 := hp_gn hq (g := w.heap.size + 1) (o := .cells #[.int .i64 0, .int .i64 0, .int .i64 0, .int .i64 0, .int .i64 0, .int .i64 0, .int .i64 0, .int .i64 0, .int .i64 0, .bool false, .bool false, .bool false] 25) hpt
  obtain ⟨⟨p0, q0⟩, ⟨p1, q1⟩, ⟨p2, q2⟩, ⟨p3, q3⟩, ⟨p4, q4⟩, ⟨p5, q5⟩, ⟨p6, q6⟩, ⟨p7, q7⟩, ⟨p8, q8⟩, ⟨p9, q9⟩, ⟨p10, q10⟩, ⟨p11, q11⟩⟩ := c12 hz
  obtain ⟨⟨p40, q40⟩, ⟨p41, q41⟩, ⟨p42, q42⟩, ⟨p43, q43⟩, ⟨p44, q44⟩, ⟨p45, q45⟩, ⟨p46, q46⟩, ⟨p47, q47⟩, ⟨p48, q48⟩, ⟨p49, q49⟩, ⟨p410, q410⟩, ⟨p411, q411⟩⟩ := c12 hz4
  have l1 := lt_of_heap' hz
  have l2 := lt_of_heap' hz4
  have m1 : w30.heap.size ≠ w.heap.size := by omega
  have m2 : w30.heap.size ≠ w.heap.size + 1 := by omega
  have m3 := m1.symm
  have m4 := m2.symm
  have hwg : w.heap.size ≤ w30.heap.size := by omega
  clear hq
  go_upto_region 40 with fail
  obtain ⟨k, rd3, q1_, q2_, q3_, q4_, q5_, q6_, q7_, u1_, u2_, u3_⟩ := y
  have hk : k = 0 ∨ k ≠ 0 := by omega
  rcases hk with rfl | hk
  · have tt := True.intro
    go_wp2_with fail
    refine fin25 2 rfl rfl rfl ⟨_, hpt, rfl, ?_, ?_⟩
    · rw [unhide hl]; unfold fallN; rw [show floatN b = _ from unhide hy, if_pos rfl]; rfl
    · exact gnt
  · have nk := ne_t hk
    go_wp2_with fail
    refine fin25 2 rfl rfl rfl ⟨_, hpt, rfl, ?_, ?_⟩
    · rw [unhide hl]; unfold fallN; rw [show floatN b = _ from unhide hy, if_neg hk]; rfl
    · exact gnt
end Go.Proofs.Ytopbdiekfhikmaa
namespace Go.Proofs.Ytopbdiekfhikmaa
open Go.RowKit
set_option maxRecDepth 100000 in
set_option maxHeartbeats 4000000 in
theorem dec_3 (b : Nat) (hb : b < 4294967296) (rd r1 r2 : Nat) (hop : fd b 0 7 = 103) (hf : fd b 12 3 = 0) (hrd : fd b 7 5 = rd) (hr1 : fd b 15 5 = r1) (hr2 : fd b 20 5 = r2) (w : World) : Calls Try.prog 10 #[.int .u32 b] w fun r w' => r = .returned (insV (decK b 103 0 rd r1 r2)) ∧ GN w w'  := by
  have hf' := hide hf
  have hrd' := hide hrd
  have hr1' := hide hr1
  have hr2' := hide hr2
  have tt := True.intro
  have hl := hide (show decK b 103 0 rd r1 r2 = (⟨4, rd, r1, 0, 0, 0, 0, 0, immI b, false, false, false⟩ : Ins) from by simp [decK])
  go_enter Try.func10, Try.ntmps10
  go_wp2_with (first | (go_at_call 14; refine (bits_any _ _ _ (by assumption) (by decide) (by decide) (by decide) _).mono ?_; rintro _ _ ⟨rfl, m_, rfl⟩) | (go_at_call 15; refine (rd_any _ (by assumption) _).mono ?_; rintro _ _ ⟨rfl, m_, rfl⟩) | (go_at_call 18; refine (f3_any _ (by assumption) _).mono ?_; rintro _ _ ⟨rfl, m_, rfl⟩) | (go_at_call 19; refine (rs1_any _ (by assumption) _).mono ?_; rintro _ _ ⟨rfl, m_, rfl⟩) | (go_at_call 20; refine (immI_any _ (by assumption) _).mono ?_; rintro _ _ ⟨rfl, m_, rfl⟩) | (go_at_call 22; refine (rs2_any _ (by assumption) _).mono ?_; rintro _ _ ⟨rfl, m_, rfl⟩) | (go_at_call 25; refine (immS_any _ (by assumption) _).mono ?_; rintro _ _ ⟨rfl, m_, rfl⟩) | (go_at_call 16; refine (immU_any _ (by assumption) _).mono ?_; rintro _ _ ⟨rfl, m_, rfl⟩) | (go_at_call 17; refine (immJ_any _ (by assumption) _).mono ?_; rintro _ _ ⟨rfl, m_, rfl⟩) | (go_at_call 23; refine (immB_any _ (by assumption) _).mono ?_; rintro _ _ ⟨rfl, m_, rfl⟩) | (go_at_call 21; refine (branches_any _).mono ?_; rintro _ _ ⟨rfl, o_, rfl⟩) | (go_at_call 24; refine (loads_any _).mono ?_; rintro _ _ ⟨rfl, o_, rfl⟩))
  refine fin25 2 rfl rfl rfl ⟨_, hpt, rfl, ?_, ?_⟩
  · rw [unhide hl]; rfl
  · exact gnt
set_option maxRecDepth 100000 in
set_option maxHeartbeats 4000000 in
theorem dec_7 (b : Nat) (hb : b < 4294967296) (f : Nat) (rd r1 r2 : Nat) (hop : fd b 0 7 = 3) (hf : fd b 12 3 = f) (hrd : fd b 7 5 = rd) (hr1 : fd b 15 5 = r1) (hr2 : fd b 20 5 = r2) (k0 : ldK f = 0) (w : World) : Calls Try.prog 10 #[.int .u32 b] w fun r w' => r = .returned (insV (decK b 3 f rd r1 r2)) ∧ GN w w'  := by
  have hf8 : f < 8 := hf ▸ fd_lt b 12 3
  have hf' := hide hf
  have hrd' := hide hrd
  have hr1' := hide hr1
  have hr2' := hide hr2
  have i1 := ix_loads f f rfl hf8
  obtain ⟨k, hk⟩ : ∃ k, ldK f = k := ⟨_, rfl⟩
  obtain ⟨z, hzz⟩ : ∃ k, ldS f = k := ⟨_, rfl⟩
  obtain ⟨u, hu⟩ : ∃ k, ldU f = k := ⟨_, rfl⟩
  rw [hk, hzz, hu] at i1
  rw [hk] at k0
  have Hk := hide hk
  have Hz := hide hzz
  have Hu := hide hu
  clear hk hzz hu
  subst k0
  have hl := hide (show decK b 3 f rd r1 r2 = fallN (floatN b) from by simp [decK, unhide Hk])
  go_enter Try.func10, Try.ntmps10
  go_upto_region 40 with (first | (go_at_call 14; refine (bits_any _ _ _ (by assumption) (by decide) (by decide) (by decide) _).mono ?_; rintro _ _ ⟨rfl, m_, rfl⟩) | (go_at_call 15; refine (rd_any _ (by assumption) _).mono ?_; rintro _ _ ⟨rfl, m_, rfl⟩) | (go_at_call 18; refine (f3_any _ (by assumption) _).mono ?_; rintro _ _ ⟨rfl, m_, rfl⟩) | (go_at_call 19; refine (rs1_any _ (by assumption) _).mono ?_; rintro _ _ ⟨rfl, m_, rfl⟩) | (go_at_call 20; refine (immI_any _ (by assumption) _).mono ?_; rintro _ _ ⟨rfl, m_, rfl⟩) | (go_at_call 22; refine (rs2_any _ (by assumption) _).mono ?_; rintro _ _ ⟨rfl, m_, rfl⟩) | (go_at_call 25; refine (immS_any _ (by assumption) _).mono ?_; rintro _ _ ⟨rfl, m_, rfl⟩) | (go_at_call 16; refine (immU_any _ (by assumption) _).mono ?_; rintro _ _ ⟨rfl, m_, rfl⟩) | (go_at_call 17; refine (immJ_any _ (by assumption) _).mono ?_; rintro _ _ ⟨rfl, m_, rfl⟩) | (go_at_call 23; refine (immB_any _ (by assumption) _).mono ?_; rintro _ _ ⟨rfl, m_, rfl⟩) | (go_at_call 21; refine (branches_any _).mono ?_; rintro _ _ ⟨rfl, o_, rfl⟩) | (go_at_call 24; refine (loads_any _).mono ?_; rintro _ _ ⟨rfl, o_, rfl⟩))
  go_at_call 30
  refine (ag_of (float_any _ (by assumption) _)).mono ?_
  rintro _ w30 ⟨y, hy, rfl, hq⟩
  have hgn : GN w w30 := GN.trans gnt hq
  have hz := hp_gn hq (g := w.heap.size) (o := .cells #[.int .i64 0, .int .i64 0, .int .i64 0, .int .i64 0, .int .i64 0, .int .i64 0, .int .i64 0, .int .i64 0, .int .i64 0, .bool false, .bool false, .bool false] 25) hpt
  have hz4 := hp_gn hq (g := w.heap.size + 1) (o := .cells #[.int .i64 0, .int .i64 0, .int .i64 0, .int .i64 0, .int .i64 0, .int .i64 0, .int .i64 0, .int .i64 0, .int .i64 0, .bool false, .bool false, .bool false] 25) hpt
  obtain ⟨⟨p0, q0⟩, ⟨p1, q1⟩, ⟨p2, q2⟩, ⟨p3, q3⟩, ⟨p4, q4⟩, ⟨p5, q5⟩, ⟨p6, q6⟩, ⟨p7, q7⟩, ⟨p8, q8⟩, ⟨p9, q9⟩, ⟨p10, q10⟩, ⟨p11, q11⟩⟩ := c12 hz
  obtain ⟨⟨p40, q40⟩, ⟨p41, q41⟩, ⟨p42, q42⟩, ⟨p43, q43⟩, ⟨p44, q44⟩, ⟨p45, q45⟩, ⟨p46, q46⟩, ⟨p47, q47⟩, ⟨p48, q48⟩, ⟨p49, q49⟩, ⟨p410, q410⟩, ⟨p411, q411⟩⟩ := c12 hz4
  have l1 := lt_of_heap' hz
  have l2 := lt_of_heap' hz4
  have m1 : w30.heap.size ≠ w.heap.size := by omega
  have m2 : w30.heap.size ≠ w.heap.size + 1 := by omega
  have m3 := m1.symm
  have m4 := m2.symm
  have hwg : w.heap.size ≤ w30.heap.size := by omega
  clear hq
  go_upto_region 40 with fail
  obtain ⟨k, rd3, q1_, q2_, q3_, q4_, q5_, q6_, q7_, u1_, u2_, u3_⟩ := y
  have hk : k = 0 ∨ k ≠ 0 := by omega
  rcases hk with rfl | hk
  · have tt := True.intro
    go_wp2_with fail
    refine fin25 2 rfl rfl rfl ⟨_, hpt, rfl, ?_, ?_⟩
    · rw [unhide hl]; unfold fallN; rw [show floatN b = _ from unhide hy, if_pos rfl]; rfl
    · exact gnt
  · have nk := ne_t hk
    go_wp2_with fail
    refine fin25 2 rfl rfl rfl ⟨_, hpt, rfl, ?_, ?_⟩
    · rw [unhide hl]; unfold fallN; rw [show floatN b = _ from unhide hy, if_neg hk]; rfl
    · exact gnt
set_option maxRecDepth 100000 in
set_option maxHeartbeats 4000000 in
theorem dec_11 (b : Nat) (hb : b < 4294967296) (rd r1 r2 : Nat) (hop : fd b 0 7 = 35) (hf : fd b 12 3 = 2) (hrd : fd b 7 5 = rd) (hr1 : fd b 15 5 = r1) (hr2 : fd b 20 5 = r2) (w : World) : Calls Try.prog 10 #[.int .u32 b] w fun r w' => r = .returned (insV (decK b 35 2 rd r1 r2)) ∧ GN w w'  := by
  have hf' := hide hf
  have hrd' := hide hrd
  have hr1' := hide hr1
  have hr2' := hide hr2
  have tt := True.intro
  have hl := hide (show decK b 35 2 rd r1 r2 = (⟨12, 0, r1, r2, 0, 0, 0, 4, immS b, false, false, false⟩ : Ins) from by simp [decK])
  go_enter Try.func10, Try.ntmps10
  go_wp2_with (first | (go_at_call 14; refine (bits_any _ _ _ (by assumption) (by decide) (by decide) (by decide) _).mono ?_; rintro _ _ ⟨rfl, m_, rfl⟩) | (go_at_call 15; refine (rd_any _ (by assumption) _).mono ?_; rintro _ _ ⟨rfl, m_, rfl⟩) | (go_at_call 18; refine (f3_any _ (by assumption) _).mono ?_; rintro _ _ ⟨rfl, m_, rfl⟩) | (go_at_call 19; refine (rs1_any _ (by assumption) _).mono ?_; rintro _ _ ⟨rfl, m_, rfl⟩) | (go_at_call 20; refine (immI_any _ (by assumption) _).mono ?_; rintro _ _ ⟨rfl, m_, rfl⟩) | (go_at_call 22; refine (rs2_any _ (by assumption) _).mono ?_; rintro _ _ ⟨rfl, m_, rfl⟩) | (go_at_call 25; refine (immS_any _ (by assumption) _).mono ?_; rintro _ _ ⟨rfl, m_, rfl⟩) | (go_at_call 16; refine (immU_any _ (by assumption) _).mono ?_; rintro _ _ ⟨rfl, m_, rfl⟩) | (go_at_call 17; refine (immJ_any _ (by assumption) _).mono ?_; rintro _ _ ⟨rfl, m_, rfl⟩) | (go_at_call 23; refine (immB_any _ (by assumption) _).mono ?_; rintro _ _ ⟨rfl, m_, rfl⟩) | (go_at_call 21; refine (branches_any _).mono ?_; rintro _ _ ⟨rfl, o_, rfl⟩) | (go_at_call 24; refine (loads_any _).mono ?_; rintro _ _ ⟨rfl, o_, rfl⟩))
  refine fin25 2 rfl rfl rfl ⟨_, hpt, rfl, ?_, ?_⟩
  · rw [unhide hl]; rfl
  · exact gnt
set_option maxRecDepth 100000 in
set_option maxHeartbeats 4000000 in
theorem dec_15 (b : Nat) (hb : b < 4294967296) (f : Nat) (rd r1 r2 : Nat) (hop : fd b 0 7 = 27) (hf : fd b 12 3 = f) (hrd : fd b 7 5 = rd) (hr1 : fd b 15 5 = r1) (hr2 : fd b 20 5 = r2) (w : World) : Calls Try.prog 10 #[.int .u32 b] w fun r w' => r = .returned (insV (decK b 27 f rd r1 r2)) ∧ GN w w'  := by
  have hf8 : f < 8 := hf ▸ fd_lt b 12 3
  have hf' := hide hf
  have hrd' := hide hrd
  have hr1' := hide hr1
  have hr2' := hide hr2
  have tt := True.intro
  have hl := hide (show decK b 27 f rd r1 r2 = immK f (fd b 26 6) (fd b 20 6) rd r1 (immI b) true from by simp [decK])
  go_enter Try.func10, Try.ntmps10
  go_wp2_with (first | (go_at_call 14; refine (bits_any _ _ _ (by assumption) (by decide) (by decide) (by decide) _).mono ?_; rintro _ _ ⟨rfl, m_, rfl⟩) | (go_at_call 15; refine (rd_any _ (by assumption) _).mono ?_; rintro _ _ ⟨rfl, m_, rfl⟩) | (go_at_call 18; refine (f3_any _ (by assumption) _).mono ?_; rintro _ _ ⟨rfl, m_, rfl⟩) | (go_at_call 19; refine (rs1_any _ (by assumption) _).mono ?_; rintro _ _ ⟨rfl, m_, rfl⟩) | (go_at_call 20; refine (immI_any _ (by assumption) _).mono ?_; rintro _ _ ⟨rfl, m_, rfl⟩) | (go_at_call 22; refine (rs2_any _ (by assumption) _).mono ?_; rintro _ _ ⟨rfl, m_, rfl⟩) | (go_at_call 25; refine (immS_any _ (by assumption) _).mono ?_; rintro _ _ ⟨rfl, m_, rfl⟩) | (go_at_call 16; refine (immU_any _ (by assumption) _).mono ?_; rintro _ _ ⟨rfl, m_, rfl⟩) | (go_at_call 17; refine (immJ_any _ (by assumption) _).mono ?_; rintro _ _ ⟨rfl, m_, rfl⟩) | (go_at_call 23; refine (immB_any _ (by assumption) _).mono ?_; rintro _ _ ⟨rfl, m_, rfl⟩) | (go_at_call 21; refine (branches_any _).mono ?_; rintro _ _ ⟨rfl, o_, rfl⟩) | (go_at_call 24; refine (loads_any _).mono ?_; rintro _ _ ⟨rfl, o_, rfl⟩) | (go_at_call 26; refine (ag_of (immediate_any _ (by assumption) _ _)).mono ?_; rintro _ w26 ⟨y, hy, rfl, hq⟩; have hgn : GN w w26 := GN.trans gnt hq; have hz := hp_gn hq (g := w.heap.size) (o := .cells #[.int .i64 0, .int .i64 0, .int .i64 0, .int .i64 0, .int .i64 0, .int .i64 0, .int .i64 0, .int .i64 0, .int .i64 0, .bool false, .bool false, .bool false] 25) hpt; obtain ⟨⟨p0, q0⟩, ⟨p1, q1⟩, ⟨p2, q2⟩, ⟨p3, q3⟩, ⟨p4, q4⟩, ⟨p5, q5⟩, ⟨p6, q6⟩, ⟨p7, q7⟩, ⟨p8, q8⟩, ⟨p9, q9⟩, ⟨p10, q10⟩, ⟨p11, q11⟩⟩ := c12 hz; clear hq))
  refine fin25 2 rfl rfl rfl ⟨_, hpt, rfl, ?_, ?_⟩
  · rw [unhide hl, ← unhide hf', ← unhide hrd', ← unhide hr1', unhide hy]; rfl
  · exact gnt
set_option maxRecDepth 100000 in
set_option maxHeartbeats 4000000 in
theorem dec_19 (b : Nat) (hb : b < 4294967296) (f : Nat) (rd r1 r2 : Nat) (hop : fd b 0 7 = 15) (hf : fd b 12 3 = f) (hrd : fd b 7 5 = rd) (hr1 : fd b 15 5 = r1) (hr2 : fd b 20 5 = r2) (f2 : ¬ f < 2) (w : World) : Calls Try.prog 10 #[.int .u32 b] w fun r w' => r = .returned (insV (decK b 15 f rd r1 r2)) ∧ GN w w'  := by
  have hf8 : f < 8 := hf ▸ fd_lt b 12 3
  have hf' := hide hf
  have hrd' := hide hrd
  have hr1' := hide hr1
  have hr2' := hide hr2
  have z4 : ¬ (f : Int) < 2 := by omega
  have hl := hide (show decK b 15 f rd r1 r2 = fallN (floatN b) from by simp [decK, f2])
  go_enter Try.func10, Try.ntmps10
  go_upto_region 40 with (first | (go_at_call 14; refine (bits_any _ _ _ (by assumption) (by decide) (by decide) (by decide) _).mono ?_; rintro _ _ ⟨rfl, m_, rfl⟩) | (go_at_call 15; refine (rd_any _ (by assumption) _).mono ?_; rintro _ _ ⟨rfl, m_, rfl⟩) | (go_at_call 18; refine (f3_any _ (by assumption) _).mono ?_; rintro _ _ ⟨rfl, m_, rfl⟩) | (go_at_call 19; refine (rs1_any _ (by assumption) _).mono ?_; rintro _ _ ⟨rfl, m_, rfl⟩) | (go_at_call 20; refine (immI_any _ (by assumption) _).mono ?_; rintro _ _ ⟨rfl, m_, rfl⟩) | (go_at_call 22; refine (rs2_any _ (by assumption) _).mono ?_; rintro _ _ ⟨rfl, m_, rfl⟩) | (go_at_call 25; refine (immS_any _ (by assumption) _).mono ?_; rintro _ _ ⟨rfl, m_, rfl⟩) | (go_at_call 16; refine (immU_any _ (by assumption) _).mono ?_; rintro _ _ ⟨rfl, m_, rfl⟩) | (go_at_call 17; refine (immJ_any _ (by assumption) _).mono ?_; rintro _ _ ⟨rfl, m_, rfl⟩) | (go_at_call 23; refine (immB_any _ (by assumption) _).mono ?_; rintro _ _ ⟨rfl, m_, rfl⟩) | (go_at_call 21; refine (branches_any _).mono ?_; rintro _ _ ⟨rfl, o_, rfl⟩) | (go_at_call 24; refine (loads_any _).mono ?_; rintro _ _ ⟨rfl, o_, rfl⟩))
  go_at_call 30
  refine (ag_of (float_any _ (by assumption) _)).mono ?_
  rintro _ w30 ⟨y, hy, rfl, hq⟩
  have hgn : GN w w30 := GN.trans gnt hq
  have hz := hp_gn hq (g := w.heap.size) (o := .cells #[.int .i64 0, .int .i64 0, .int .i64 0, .int .i64 0, .int .i64 0, .int .i64 0, .int .i64 0, .int .i64 0, .int .i64 0, .bool false, .bool false, .bool false] 25) hpt
  have hz4 := hp_gn hq (g := w.heap.size + 1) (o := .cells #[.int .i64 0, .int .i64 0, .int .i64 0, .int .i64 0, .int .i64 0, .int .i64 0, .int .i64 0, .int .i64 0, .int .i64 0, .bool false, .bool false, .bool false] 25) hpt
  obtain ⟨⟨p0, q0⟩, ⟨p1, q1⟩, ⟨p2, q2⟩, ⟨p3, q3⟩, ⟨p4, q4⟩, ⟨p5, q5⟩, ⟨p6, q6⟩, ⟨p7, q7⟩, ⟨p8, q8⟩, ⟨p9, q9⟩, ⟨p10, q10⟩, ⟨p11, q11⟩⟩ := c12 hz
  obtain ⟨⟨p40, q40⟩, ⟨p41, q41⟩, ⟨p42, q42⟩, ⟨p43, q43⟩, ⟨p44, q44⟩, ⟨p45, q45⟩, ⟨p46, q46⟩, ⟨p47, q47⟩, ⟨p48, q48⟩, ⟨p49, q49⟩, ⟨p410, q410⟩, ⟨p411, q411⟩⟩ := c12 hz4
  have l1 := lt_of_heap' hz
  have l2 := lt_of_heap' hz4
  have m1 : w30.heap.size ≠ w.heap.size := by omega
  have m2 : w30.heap.size ≠ w.heap.size + 1 := by omega
  have m3 := m1.symm
  have m4 := m2.symm
  have hwg : w.heap.size ≤ w30.heap.size := by omega
  clear hq
  go_upto_region 40 with fail
  obtain ⟨k, rd3, q1_, q2_, q3_, q4_, q5_, q6_, q7_, u1_, u2_, u3_⟩ := y
  have hk : k = 0 ∨ k ≠ 0 := by omega
  rcases hk with rfl | hk
  · have tt := True.intro
    go_wp2_with fail
    refine fin25 2 rfl rfl rfl ⟨_, hpt, rfl, ?_, ?_⟩
    · rw [unhide hl]; unfold fallN; rw [show floatN b = _ from unhide hy, if_pos rfl]; rfl
    · exact gnt
  · have nk := ne_t hk
    go_wp2_with fail
    refine fin25 2 rfl rfl rfl ⟨_, hpt, rfl, ?_, ?_⟩
    · rw [unhide hl]; unfold fallN; rw [show floatN b = _ from unhide hy, if_neg hk]; rfl
    · exact gnt
end Go.Proofs.Ytopbdiekfhikmaa
namespace Go.Proofs.Ytopbdiekfhikmaa
open Go.RowKit
theorem decode_any (b : Nat) (hb : b < 4294967296) (w : World) : Calls Try.prog 10 #[.int .u32 b] w fun r w' => r = .returned (insV (decN b)) ∧ GN w w' := by
  obtain ⟨op, hop⟩ : ∃ g, fd b 0 7 = g := ⟨_, rfl⟩
  obtain ⟨f, hf⟩ : ∃ f, fd b 12 3 = f := ⟨_, rfl⟩
  obtain ⟨rd, hrd⟩ : ∃ g, fd b 7 5 = g := ⟨_, rfl⟩
  obtain ⟨r1, hr1⟩ : ∃ g, fd b 15 5 = g := ⟨_, rfl⟩
  obtain ⟨r2, hr2⟩ : ∃ g, fd b 20 5 = g := ⟨_, rfl⟩
  unfold decN
  rw [hop, hf, hrd, hr1, hr2]
  have hc : op = 55 ∨ op = 23 ∨ op = 111 ∨ op = 103 ∨ op = 99 ∨ op = 3 ∨ op = 35 ∨ op = 19 ∨ op = 27 ∨ op = 51 ∨ op = 59 ∨ op = 15 ∨ op = 115 ∨ op = 47 ∨ (op ≠ 55 ∧ op ≠ 23 ∧ op ≠ 111 ∧ op ≠ 103 ∧ op ≠ 99 ∧ op ≠ 3 ∧ op ≠ 35 ∧ op ≠ 19 ∧ op ≠ 27 ∧ op ≠ 51 ∧ op ≠ 59 ∧ op ≠ 15 ∧ op ≠ 115 ∧ op ≠ 47) := by omega
  rcases hc with rfl | rfl | rfl | rfl | rfl | rfl | rfl | rfl | rfl | rfl | rfl | rfl | rfl | rfl | ⟨n55, n23, n111, n103, n99, n3, n35, n19, n27, n51, n59, n15, n115, n47⟩
  · exact dec_0 b hb f rd r1 r2 hop hf hrd hr1 hr2  w
  · exact dec_1 b hb f rd r1 r2 hop hf hrd hr1 hr2  w
  · exact dec_2 b hb f rd r1 r2 hop hf hrd hr1 hr2  w
  · by_cases f0 : f = 0
    · subst f0; exact dec_3 b hb  rd r1 r2 hop hf hrd hr1 hr2  w
    · exact dec_4 b hb f rd r1 r2 hop hf hrd hr1 hr2 f0 w
  · by_cases k0 : brK f = 0
    · exact dec_5 b hb f rd r1 r2 hop hf hrd hr1 hr2 k0 w
    · exact dec_6 b hb f rd r1 r2 hop hf hrd hr1 hr2 k0 w
  · by_cases k0 : ldK f = 0
    · exact dec_7 b hb f rd r1 r2 hop hf hrd hr1 hr2 k0 w
    · exact dec_8 b hb f rd r1 r2 hop hf hrd hr1 hr2 k0 w
  · have fc : f = 0 ∨ f = 1 ∨ f = 2 ∨ f = 3 ∨ ¬ f < 4 := by omega
    rcases fc with rfl | rfl | rfl | rfl | f4
    · exact dec_9 b hb  rd r1 r2 hop hf hrd hr1 hr2  w
    · exact dec_10 b hb  rd r1 r2 hop hf hrd hr1 hr2  w
    · exact dec_11 b hb  rd r1 r2 hop hf hrd hr1 hr2  w
    · exact dec_12 b hb  rd r1 r2 hop hf hrd hr1 hr2  w
    · exact dec_13 b hb f rd r1 r2 hop hf hrd hr1 hr2 f4 w
  · exact dec_14 b hb f rd r1 r2 hop hf hrd hr1 hr2  w
  · exact dec_15 b hb f rd r1 r2 hop hf hrd hr1 hr2  w
  · exact dec_16 b hb f rd r1 r2 hop hf hrd hr1 hr2  w
  · exact dec_17 b hb f rd r1 r2 hop hf hrd hr1 hr2  w
  · by_cases f2 : f < 2
    · exact dec_18 b hb f rd r1 r2 hop hf hrd hr1 hr2 f2 w
    · exact dec_19 b hb f rd r1 r2 hop hf hrd hr1 hr2 f2 w
  · exact dec_20 b hb f rd r1 r2 hop hf hrd hr1 hr2  w
  · exact dec_21 b hb f rd r1 r2 hop hf hrd hr1 hr2  w
  · exact dec_22 b hb op f rd r1 r2 hop hf hrd hr1 hr2 n55 n23 n111 n103 n99 n3 n35 n19 n27 n51 n59 n15 n115 n47 w
end Go.Proofs.Ytopbdiekfhikmaa
