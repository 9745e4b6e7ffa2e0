/- Layer 3: sums with an immediate. -/
import Derived.Test.YtopbdiekfhikmaaD4
namespace Go.Proofs.Ytopbdiekfhikmaa
open Go.RowKit
theorem row_self {w : World} {g t : Nat} {old cs : Array Value} (h : w.heap[g]? = some (.cells old t (0, 0))) : (w.setRow g cs).heap[g]? = some (.cells cs t (0, 0)) := by
  simp [World.setRow, Array.getElem?_modify, h]
theorem row_ne {w : World} {g k : Nat} {o : Obj} {cs : Array Value} (hk : k ≠ g) (h : w.heap[k]? = some o) : (w.setRow g cs).heap[k]? = some o := by
  have : ¬ g = k := fun e => hk e.symm
  simp [World.setRow, Array.getElem?_modify, h, this]
theorem GN.setRow {w w' : World} {g : Nat} (h : GN w w') (hc : w.heap.size ≤ g) (cs : Array Value) : GN w (w'.setRow g cs) :=
  ⟨h.os, h.tape, h.output, by have := h.size; simpa [World.setRow] using this, fun k hk hn => by
    have hne : ¬ g = k := by omega
    have := h.block k hk hn
    simp only [World.setRow, Array.getElem?_modify, hne, if_false]
    exact this⟩
def immX (k : Int) (rd r1 : Nat) (i : Int) (short : Bool) : Ins := ⟨k, rd, r1, 0, 0, 0, 0, 0, i, true, false, short⟩
def immK (f hi sh rd r1 : Nat) (i : Int) (short : Bool) : Ins :=
  if f ≠ 1 ∧ f ≠ 5 then (if short = true ∧ f ≠ 0 then zero else immX (sumK f) rd r1 i short)
  else if short = true ∧ 31 < sh then zero
  else if hi = 16 ∧ f = 5 then immX 20 rd r1 sh short
  else if hi ≠ 0 then zero
  else immX (sumK f) rd r1 sh short
set_option maxRecDepth 100000 in
set_option maxHeartbeats 4000000 in
theorem immediate_any (b : Nat) (hb : b < 4294967296) (short : Bool) (w : World) : Calls Try.prog 26 #[.int .u32 b, .bool short] w fun r w' => r = .returned (insV (immK (fd b 12 3) (fd b 26 6) (fd b 20 6) (fd b 7 5) (fd b 15 5) (immI b) short)) ∧ GN w w' := by
  obtain ⟨f, hf⟩ : ∃ f, fd b 12 3 = f := ⟨_, rfl⟩
  obtain ⟨hi, hhi⟩ : ∃ g, fd b 26 6 = g := ⟨_, rfl⟩
  obtain ⟨sh, hsh⟩ : ∃ g, fd b 20 6 = g := ⟨_, rfl⟩
  obtain ⟨rd, hrd⟩ : ∃ g, fd b 7 5 = g := ⟨_, rfl⟩
  obtain ⟨r1, hr1⟩ : ∃ g, fd b 15 5 = g := ⟨_, rfl⟩
  have hf8 : f < 8 := hf ▸ fd_lt b 12 3
  rw [hf, hhi, hsh, hrd, hr1]
  go_enter Try.func26, Try.ntmps26
  go_upto_region 1 with fail
  have hW : GN w (w.alloc (.cells #[.int .i64 0, .int .i64 0, .int .i64 0, .int .i64 0, .int .i64 0, .int .i64 0, .int .i64 0, .int .i64 0, .int .i64 0, .bool false, .bool false, .bool false] 25)) := (GN.refl w).alloc _
  have hz := heap_alloc_last w (.cells #[.int .i64 0, .int .i64 0, .int .i64 0, .int .i64 0, .int .i64 0, .int .i64 0, .int .i64 0, .int .i64 0, .int .i64 0, .bool false, .bool false, .bool false] 25)
  have hsz := lt_of_heap' hz
  generalize w.alloc (.cells #[.int .i64 0, .int .i64 0, .int .i64 0, .int .i64 0, .int .i64 0, .int .i64 0, .int .i64 0, .int .i64 0, .int .i64 0, .bool false, .bool false, .bool false] 25) = W at *
  refine wp_region_E (fun w_ => GN W w_) GN (fun k_ v_ w_ => match k_ with
      | 0 => v_ = .agg #[.int .i64 13, .int .i64 15, .int .i64 16, .int .i64 17, .int .i64 18, .int .i64 19, .int .i64 21, .int .i64 22]
      | 1 => v_ = .int .u32 (b : Int)
      | 2 => v_ = .int .i64 (f : Int)
      | 3 => v_ = .int .i64 (sumK f)
      | 4 => v_ = .int .u32 (b : Int)
      | 5 => v_ = .int .i64 (rd : Int)
      | 6 => v_ = .int .u32 (b : Int)
      | 7 => v_ = .int .i64 (r1 : Int)
      | 8 => v_ = .bool short
      | 9 => v_ = .agg #[.int .i64 (sumK f), .int .i64 (rd : Int), .int .i64 (r1 : Int), .int .i64 0, .int .i64 0, .int .i64 0, .int .i64 0, .int .i64 0, .int .i64 0, .bool true, .bool false, .bool short]
      | _ => ∃ g, v_ = .pointer (some ⟨g, 0, none⟩) ∧ W.heap.size ≤ g ∧ w_.heap[g]? = some (.cells #[.int .i64 0, .int .i64 0, .int .i64 0, .int .i64 0, .int .i64 0, .int .i64 0, .int .i64 0, .int .i64 0, .int .i64 0, .bool false, .bool false, .bool false] 25 (0, 0))) fol (by kernel_rfl) ?_ ?_ (n := 11) rfl rfl rfl (by kernel_rfl) ?_ ?_
  · exact (GN.refl W).drew
  · intro k_ v_ w_ w2_ h1 hg
    split at h1 <;> first | exact h1 | (obtain ⟨g, e, hge, hh⟩ := h1; exact ⟨g, e, hge, GN.heap hg hh⟩)
  · intro vals
    show wpG _ _ _ _ _ _ 0 (_ :: _) _
    refine wpG_cons (gcall 35 #[] fun w_ hJ hd => ?_) ?_
    · exact ⟨by kernel_rfl, by kernel_rfl, (sums_any w_).mono fun e w2 ⟨he, o, hw⟩ => ⟨_, he, by subst hw; exact hJ.alloc o, by subst hw; exact (GN.refl w_).alloc o, rfl⟩⟩
    refine wpG_cons (gval (.int .u32 (b : Int)) GN.refl fun w_ hJ hd => ?_) ?_
    · exact ⟨by kernel_rfl, by kernel_rfl, rfl⟩
    refine wpG_cons (gcall 18 #[.int .u32 (b : Int)] fun w_ hJ hd => ?_) ?_
    · have e1 : vals 1 = _ := hd 1 (by decide) (by kernel_rfl)
      rw [e1]
      exact ⟨by kernel_rfl, by kernel_rfl, (f3_any b hb w_).mono fun e w2 ⟨he, m, hw⟩ => ⟨_, he, by subst hw; exact hJ.drewN _, by subst hw; exact (GN.refl w_).drewN _, by rw [hf]; exact rfl⟩⟩
    refine wpG_cons (gop (Instr.index 38 (.agg #[.int .i64 13, .int .i64 15, .int .i64 16, .int .i64 17, .int .i64 18, .int .i64 19, .int .i64 21, .int .i64 22]) (.int .i64 (f : Int))) (.int .i64 (sumK f)) GN.refl fun w_ hJ hd => ?_) ?_
    · have e0 : vals 0 = _ := hd 0 (by decide) (by kernel_rfl)
      have e2 : vals 2 = _ := hd 2 (by decide) (by kernel_rfl)
      rw [e0, e2]
      exact ⟨by kernel_rfl, by kernel_rfl, ix_sums f f rfl hf8 w_, rfl⟩
    refine wpG_cons (gval (.int .u32 (b : Int)) GN.refl fun w_ hJ hd => ?_) ?_
    · exact ⟨by kernel_rfl, by kernel_rfl, rfl⟩
    refine wpG_cons (gcall 15 #[.int .u32 (b : Int)] fun w_ hJ hd => ?_) ?_
    · have e4 : vals 4 = _ := hd 4 (by decide) (by kernel_rfl)
      rw [e4]
      exact ⟨by kernel_rfl, by kernel_rfl, (rd_any b hb w_).mono fun e w2 ⟨he, m, hw⟩ => ⟨_, he, by subst hw; exact hJ.drewN _, by subst hw; exact (GN.refl w_).drewN _, by rw [hrd]; exact rfl⟩⟩
    refine wpG_cons (gval (.int .u32 (b : Int)) GN.refl fun w_ hJ hd => ?_) ?_
    · exact ⟨by kernel_rfl, by kernel_rfl, rfl⟩
    refine wpG_cons (gcall 19 #[.int .u32 (b : Int)] fun w_ hJ hd => ?_) ?_
    · have e6 : vals 6 = _ := hd 6 (by decide) (by kernel_rfl)
      rw [e6]
      exact ⟨by kernel_rfl, by kernel_rfl, (rs1_any b hb w_).mono fun e w2 ⟨he, m, hw⟩ => ⟨_, he, by subst hw; exact hJ.drewN _, by subst hw; exact (GN.refl w_).drewN _, by rw [hr1]; exact rfl⟩⟩
    refine wpG_cons (gval (.bool short) GN.refl fun w_ hJ hd => ?_) ?_
    · exact ⟨by kernel_rfl, by kernel_rfl, rfl⟩
    refine wpG_cons (gval (.agg #[.int .i64 (sumK f), .int .i64 (rd : Int), .int .i64 (r1 : Int), .int .i64 0, .int .i64 0, .int .i64 0, .int .i64 0, .int .i64 0, .int .i64 0, .bool true, .bool false, .bool short]) GN.refl fun w_ hJ hd => ?_) ?_
    · have e3 : vals 3 = _ := hd 3 (by decide) (by kernel_rfl)
      have e5 : vals 5 = _ := hd 5 (by decide) (by kernel_rfl)
      have e7 : vals 7 = _ := hd 7 (by decide) (by kernel_rfl)
      have e8 : vals 8 = _ := hd 8 (by decide) (by kernel_rfl)
      rw [e3, e5, e7, e8]
      exact ⟨by kernel_rfl, by kernel_rfl, rfl⟩
    refine wpG_cons (gmake fun w_ hJ hd => ?_) wpG_nil
    · exact ⟨by kernel_rfl, _, w_.alloc (.cells #[.int .i64 0, .int .i64 0, .int .i64 0, .int .i64 0, .int .i64 0, .int .i64 0, .int .i64 0, .int .i64 0, .int .i64 0, .bool false, .bool false, .bool false] 25), (by kernel_rfl : _ = Result.ok (Next.value (.pointer (some ⟨w_.heap.size, 0, none⟩))) _), hJ.alloc _, (GN.refl w_).alloc _, _, rfl, hJ.size, heap_alloc_last w_ _⟩
  intro vals w_ hJ hf
  have e0 : vals 0 = _ := hf 0 (by decide)
  have e1 : vals 1 = _ := hf 1 (by decide)
  have e2 : vals 2 = _ := hf 2 (by decide)
  have e3 : vals 3 = _ := hf 3 (by decide)
  have e4 : vals 4 = _ := hf 4 (by decide)
  have e5 : vals 5 = _ := hf 5 (by decide)
  have e6 : vals 6 = _ := hf 6 (by decide)
  have e7 : vals 7 = _ := hf 7 (by decide)
  have e8 : vals 8 = _ := hf 8 (by decide)
  have e9 : vals 9 = _ := hf 9 (by decide)
  have e10 : ∃ g, (vals 10) = .pointer (some ⟨g, 0, none⟩) ∧ W.heap.size ≤ g ∧ w_.heap[g]? = some (.cells #[.int .i64 0, .int .i64 0, .int .i64 0, .int .i64 0, .int .i64 0, .int .i64 0, .int .i64 0, .int .i64 0, .int .i64 0, .bool false, .bool false, .bool false] 25 (0, 0)) := hf 10 (by decide)
  show Oper.wp _ _ (fillG vals 0 (_ :: _ :: _ :: _ :: _ :: _ :: _ :: _ :: _ :: _ :: _ :: []) _) _ _ _
  simp only [fillG, Nat.zero_add, Nat.reduceAdd, e0, e1, e2, e3, e4, e5, e6, e7, e8, e9, Act.put, List.setIfInBounds_toArray, List.set_cons_succ, List.set_cons_zero]
  clear e0 e1 e2 e3 e4 e5 e6 e7 e8 e9 hf
  generalize vals 10 = v10 at *
  obtain ⟨g, rfl, hge, hg5⟩ := e10
  refine wp_store_row 25 (.tmp 5) (.tmp 16) rfl g _ rfl rfl 25 _ hg5 (by kernel_rfl) rfl (by kernel_rfl) ?_
  have hne : w.heap.size ≠ g := by omega
  have hne' := hne.symm
  have hwg : w.heap.size ≤ g := by omega
  have k5 := row_self (cs := #[.int .i64 (sumK f), .int .i64 (rd : Int), .int .i64 (r1 : Int), .int .i64 0, .int .i64 0, .int .i64 0, .int .i64 0, .int .i64 0, .int .i64 0, .bool true, .bool false, .bool short]) hg5
  have k4 := row_ne (cs := #[.int .i64 (sumK f), .int .i64 (rd : Int), .int .i64 (r1 : Int), .int .i64 0, .int .i64 0, .int .i64 0, .int .i64 0, .int .i64 0, .int .i64 0, .bool true, .bool false, .bool short]) hne (GN.heap hJ hz)
  have hgn := GN.setRow (cs := #[.int .i64 (sumK f), .int .i64 (rd : Int), .int .i64 (r1 : Int), .int .i64 0, .int .i64 0, .int .i64 0, .int .i64 0, .int .i64 0, .int .i64 0, .bool true, .bool false, .bool short]) (hW.trans hJ) (Nat.le_trans (Nat.le_of_lt hsz) hge)
  generalize w_.setRow g _ = w1 at *
  obtain ⟨⟨p0, q0⟩, ⟨p1, q1⟩, ⟨p2, q2⟩, ⟨p3, q3⟩, ⟨p4, q4⟩, ⟨p5, q5⟩, ⟨p6, q6⟩, ⟨p7, q7⟩, ⟨p8, q8⟩, ⟨p9, q9⟩, ⟨p10, q10⟩, ⟨p11, q11⟩⟩ := c12 k5
  obtain ⟨⟨s0, t0⟩, ⟨s1, t1⟩, ⟨s2, t2⟩, ⟨s3, t3⟩, ⟨s4, t4⟩, ⟨s5, t5⟩, ⟨s6, t6⟩, ⟨s7, t7⟩, ⟨s8, t8⟩, ⟨s9, t9⟩, ⟨s10, t10⟩, ⟨s11, t11⟩⟩ := c12 k4
  clear hg5 hJ hz hW
  have hc : (f ≠ 1 ∧ f ≠ 5) ∨ f = 1 ∨ f = 5 := by omega
  rcases hc with ⟨f1, f5⟩ | rfl | rfl
  · cases short
    · have n1 := ne_t (show ((f : Nat) : Int) ≠ 1 by omega)
      have n5 := ne_t (show ((f : Nat) : Int) ≠ 5 by omega)
      have hl := hide (show immK f hi sh rd r1 (immI b) false = immX (sumK f) rd r1 (immI b) false from by simp [immK, f1, f5])
      go_wp2_with (first | (go_at_call 14; refine (bits_any _ _ _ (by assumption) (by decide) (by decide) (by decide) _).mono ?_; rintro _ _ ⟨rfl, m_, rfl⟩) | (go_at_call 15; refine (rd_any _ (by assumption) _).mono ?_; rintro _ _ ⟨rfl, m_, rfl⟩) | (go_at_call 18; refine (f3_any _ (by assumption) _).mono ?_; rintro _ _ ⟨rfl, m_, rfl⟩) | (go_at_call 19; refine (rs1_any _ (by assumption) _).mono ?_; rintro _ _ ⟨rfl, m_, rfl⟩) | (go_at_call 20; refine (immI_any _ (by assumption) _).mono ?_; rintro _ _ ⟨rfl, m_, rfl⟩))
      refine fin25 4 rfl rfl rfl ⟨_, hpt, rfl, ?_, ?_⟩
      · rw [unhide hl]; rfl
      · exact gnt
    · have h0 : f = 0 ∨ f ≠ 0 := by omega
      rcases h0 with rfl | f0
      · clear hf8
        have hl := hide (show immK 0 hi sh rd r1 (immI b) true = immX (sumK 0) rd r1 (immI b) true from by simp [immK])
        go_wp2_with (first | (go_at_call 14; refine (bits_any _ _ _ (by assumption) (by decide) (by decide) (by decide) _).mono ?_; rintro _ _ ⟨rfl, m_, rfl⟩) | (go_at_call 15; refine (rd_any _ (by assumption) _).mono ?_; rintro _ _ ⟨rfl, m_, rfl⟩) | (go_at_call 18; refine (f3_any _ (by assumption) _).mono ?_; rintro _ _ ⟨rfl, m_, rfl⟩) | (go_at_call 19; refine (rs1_any _ (by assumption) _).mono ?_; rintro _ _ ⟨rfl, m_, rfl⟩) | (go_at_call 20; refine (immI_any _ (by assumption) _).mono ?_; rintro _ _ ⟨rfl, m_, rfl⟩))
        refine fin25 4 rfl rfl rfl ⟨_, hpt, rfl, ?_, ?_⟩
        · rw [unhide hl]; rfl
        · exact gnt
      · have n0 := ne_t (show ((f : Nat) : Int) ≠ 0 by omega)
        have n1 := ne_t (show ((f : Nat) : Int) ≠ 1 by omega)
        have n5 := ne_t (show ((f : Nat) : Int) ≠ 5 by omega)
        have hl := hide (show immK f hi sh rd r1 (immI b) true = zero from by simp [immK, f0, f1, f5])
        go_wp2_with (first | (go_at_call 14; refine (bits_any _ _ _ (by assumption) (by decide) (by decide) (by decide) _).mono ?_; rintro _ _ ⟨rfl, m_, rfl⟩) | (go_at_call 15; refine (rd_any _ (by assumption) _).mono ?_; rintro _ _ ⟨rfl, m_, rfl⟩) | (go_at_call 18; refine (f3_any _ (by assumption) _).mono ?_; rintro _ _ ⟨rfl, m_, rfl⟩) | (go_at_call 19; refine (rs1_any _ (by assumption) _).mono ?_; rintro _ _ ⟨rfl, m_, rfl⟩) | (go_at_call 20; refine (immI_any _ (by assumption) _).mono ?_; rintro _ _ ⟨rfl, m_, rfl⟩))
        refine fin25 4 rfl rfl rfl ⟨_, hpt, rfl, ?_, ?_⟩
        · rw [unhide hl]; rfl
        · exact gnt
  · have hc : hi = 16 ∨ hi = 0 ∨ (hi ≠ 16 ∧ hi ≠ 0) := by omega
    have sc : sh ≤ 31 ∨ 31 < sh := by omega
    cases short
    · rcases hc with rfl | rfl | ⟨h16, h0⟩
      · have tt := True.intro
        have hl := hide (show immK 1 16 sh rd r1 (immI b) false = zero from by simp [immK])
        go_wp2_with (first | (go_at_call 14; refine (bits_any _ _ _ (by assumption) (by decide) (by decide) (by decide) _).mono ?_; rintro _ _ ⟨rfl, m_, rfl⟩) | (go_at_call 15; refine (rd_any _ (by assumption) _).mono ?_; rintro _ _ ⟨rfl, m_, rfl⟩) | (go_at_call 18; refine (f3_any _ (by assumption) _).mono ?_; rintro _ _ ⟨rfl, m_, rfl⟩) | (go_at_call 19; refine (rs1_any _ (by assumption) _).mono ?_; rintro _ _ ⟨rfl, m_, rfl⟩) | (go_at_call 20; refine (immI_any _ (by assumption) _).mono ?_; rintro _ _ ⟨rfl, m_, rfl⟩))
        refine fin25 4 rfl rfl rfl ⟨_, hpt, rfl, ?_, ?_⟩
        · rw [unhide hl]; rfl
        · exact gnt
      · have tt := True.intro
        have hl := hide (show immK 1 0 sh rd r1 (immI b) false = immX (sumK 1) rd r1 sh false from by simp [immK])
        go_wp2_with (first | (go_at_call 14; refine (bits_any _ _ _ (by assumption) (by decide) (by decide) (by decide) _).mono ?_; rintro _ _ ⟨rfl, m_, rfl⟩) | (go_at_call 15; refine (rd_any _ (by assumption) _).mono ?_; rintro _ _ ⟨rfl, m_, rfl⟩) | (go_at_call 18; refine (f3_any _ (by assumption) _).mono ?_; rintro _ _ ⟨rfl, m_, rfl⟩) | (go_at_call 19; refine (rs1_any _ (by assumption) _).mono ?_; rintro _ _ ⟨rfl, m_, rfl⟩) | (go_at_call 20; refine (immI_any _ (by assumption) _).mono ?_; rintro _ _ ⟨rfl, m_, rfl⟩))
        refine fin25 4 rfl rfl rfl ⟨_, hpt, rfl, ?_, ?_⟩
        · rw [unhide hl]; rfl
        · exact gnt
      · have tt := True.intro
        have n16 := ne_b (show ((hi : Nat) : Int) ≠ 16 by omega)
        have n0 := ne_t (show ((hi : Nat) : Int) ≠ 0 by omega)
        have hl := hide (show immK 1 hi sh rd r1 (immI b) false = zero from by simp [immK, h16, h0])
        go_wp2_with (first | (go_at_call 14; refine (bits_any _ _ _ (by assumption) (by decide) (by decide) (by decide) _).mono ?_; rintro _ _ ⟨rfl, m_, rfl⟩) | (go_at_call 15; refine (rd_any _ (by assumption) _).mono ?_; rintro _ _ ⟨rfl, m_, rfl⟩) | (go_at_call 18; refine (f3_any _ (by assumption) _).mono ?_; rintro _ _ ⟨rfl, m_, rfl⟩) | (go_at_call 19; refine (rs1_any _ (by assumption) _).mono ?_; rintro _ _ ⟨rfl, m_, rfl⟩) | (go_at_call 20; refine (immI_any _ (by assumption) _).mono ?_; rintro _ _ ⟨rfl, m_, rfl⟩))
        refine fin25 4 rfl rfl rfl ⟨_, hpt, rfl, ?_, ?_⟩
        · rw [unhide hl]; rfl
        · exact gnt
    · rcases sc with s31 | s31
      · rcases hc with rfl | rfl | ⟨h16, h0⟩
        · have z31 : (sh : Int) ≤ 31 := by omega
          have z32 : ¬ (31 : Int) < sh := by omega
          have hl := hide (show immK 1 16 sh rd r1 (immI b) true = zero from by simp [immK, show ¬ 31 < sh by omega])
          go_wp2_with (first | (go_at_call 14; refine (bits_any _ _ _ (by assumption) (by decide) (by decide) (by decide) _).mono ?_; rintro _ _ ⟨rfl, m_, rfl⟩) | (go_at_call 15; refine (rd_any _ (by assumption) _).mono ?_; rintro _ _ ⟨rfl, m_, rfl⟩) | (go_at_call 18; refine (f3_any _ (by assumption) _).mono ?_; rintro _ _ ⟨rfl, m_, rfl⟩) | (go_at_call 19; refine (rs1_any _ (by assumption) _).mono ?_; rintro _ _ ⟨rfl, m_, rfl⟩) | (go_at_call 20; refine (immI_any _ (by assumption) _).mono ?_; rintro _ _ ⟨rfl, m_, rfl⟩))
          refine fin25 4 rfl rfl rfl ⟨_, hpt, rfl, ?_, ?_⟩
          · rw [unhide hl]; rfl
          · exact gnt
        · have z31 : (sh : Int) ≤ 31 := by omega
          have z32 : ¬ (31 : Int) < sh := by omega
          have hl := hide (show immK 1 0 sh rd r1 (immI b) true = immX (sumK 1) rd r1 sh true from by simp [immK, show ¬ 31 < sh by omega])
          go_wp2_with (first | (go_at_call 14; refine (bits_any _ _ _ (by assumption) (by decide) (by decide) (by decide) _).mono ?_; rintro _ _ ⟨rfl, m_, rfl⟩) | (go_at_call 15; refine (rd_any _ (by assumption) _).mono ?_; rintro _ _ ⟨rfl, m_, rfl⟩) | (go_at_call 18; refine (f3_any _ (by assumption) _).mono ?_; rintro _ _ ⟨rfl, m_, rfl⟩) | (go_at_call 19; refine (rs1_any _ (by assumption) _).mono ?_; rintro _ _ ⟨rfl, m_, rfl⟩) | (go_at_call 20; refine (immI_any _ (by assumption) _).mono ?_; rintro _ _ ⟨rfl, m_, rfl⟩))
          refine fin25 4 rfl rfl rfl ⟨_, hpt, rfl, ?_, ?_⟩
          · rw [unhide hl]; rfl
          · exact gnt
        · have z31 : (sh : Int) ≤ 31 := by omega
          have z32 : ¬ (31 : Int) < sh := by omega
          have n16 := ne_b (show ((hi : Nat) : Int) ≠ 16 by omega)
          have n0 := ne_t (show ((hi : Nat) : Int) ≠ 0 by omega)
          have hl := hide (show immK 1 hi sh rd r1 (immI b) true = zero from by simp [immK, h16, h0, show ¬ 31 < sh by omega])
          go_wp2_with (first | (go_at_call 14; refine (bits_any _ _ _ (by assumption) (by decide) (by decide) (by decide) _).mono ?_; rintro _ _ ⟨rfl, m_, rfl⟩) | (go_at_call 15; refine (rd_any _ (by assumption) _).mono ?_; rintro _ _ ⟨rfl, m_, rfl⟩) | (go_at_call 18; refine (f3_any _ (by assumption) _).mono ?_; rintro _ _ ⟨rfl, m_, rfl⟩) | (go_at_call 19; refine (rs1_any _ (by assumption) _).mono ?_; rintro _ _ ⟨rfl, m_, rfl⟩) | (go_at_call 20; refine (immI_any _ (by assumption) _).mono ?_; rintro _ _ ⟨rfl, m_, rfl⟩))
          refine fin25 4 rfl rfl rfl ⟨_, hpt, rfl, ?_, ?_⟩
          · rw [unhide hl]; rfl
          · exact gnt
      · have z31 : (31 : Int) < sh := by omega
        have hl := hide (show immK 1 hi sh rd r1 (immI b) true = zero from by simp [immK, s31])
        go_wp2_with (first | (go_at_call 14; refine (bits_any _ _ _ (by assumption) (by decide) (by decide) (by decide) _).mono ?_; rintro _ _ ⟨rfl, m_, rfl⟩) | (go_at_call 15; refine (rd_any _ (by assumption) _).mono ?_; rintro _ _ ⟨rfl, m_, rfl⟩) | (go_at_call 18; refine (f3_any _ (by assumption) _).mono ?_; rintro _ _ ⟨rfl, m_, rfl⟩) | (go_at_call 19; refine (rs1_any _ (by assumption) _).mono ?_; rintro _ _ ⟨rfl, m_, rfl⟩) | (go_at_call 20; refine (immI_any _ (by assumption) _).mono ?_; rintro _ _ ⟨rfl, m_, rfl⟩))
        refine fin25 4 rfl rfl rfl ⟨_, hpt, rfl, ?_, ?_⟩
        · rw [unhide hl]; rfl
        · exact gnt
  · have hc : hi = 16 ∨ hi = 0 ∨ (hi ≠ 16 ∧ hi ≠ 0) := by omega
    have sc : sh ≤ 31 ∨ 31 < sh := by omega
    cases short
    · rcases hc with rfl | rfl | ⟨h16, h0⟩
      · have tt := True.intro
        have hl := hide (show immK 5 16 sh rd r1 (immI b) false = immX 20 rd r1 sh false from by simp [immK])
        go_wp2_with (first | (go_at_call 14; refine (bits_any _ _ _ (by assumption) (by decide) (by decide) (by decide) _).mono ?_; rintro _ _ ⟨rfl, m_, rfl⟩) | (go_at_call 15; refine (rd_any _ (by assumption) _).mono ?_; rintro _ _ ⟨rfl, m_, rfl⟩) | (go_at_call 18; refine (f3_any _ (by assumption) _).mono ?_; rintro _ _ ⟨rfl, m_, rfl⟩) | (go_at_call 19; refine (rs1_any _ (by assumption) _).mono ?_; rintro _ _ ⟨rfl, m_, rfl⟩) | (go_at_call 20; refine (immI_any _ (by assumption) _).mono ?_; rintro _ _ ⟨rfl, m_, rfl⟩))
        refine fin25 4 rfl rfl rfl ⟨_, hpt, rfl, ?_, ?_⟩
        · rw [unhide hl]; rfl
        · exact gnt
      · have tt := True.intro
        have hl := hide (show immK 5 0 sh rd r1 (immI b) false = immX (sumK 5) rd r1 sh false from by simp [immK])
        go_wp2_with (first | (go_at_call 14; refine (bits_any _ _ _ (by assumption) (by decide) (by decide) (by decide) _).mono ?_; rintro _ _ ⟨rfl, m_, rfl⟩) | (go_at_call 15; refine (rd_any _ (by assumption) _).mono ?_; rintro _ _ ⟨rfl, m_, rfl⟩) | (go_at_call 18; refine (f3_any _ (by assumption) _).mono ?_; rintro _ _ ⟨rfl, m_, rfl⟩) | (go_at_call 19; refine (rs1_any _ (by assumption) _).mono ?_; rintro _ _ ⟨rfl, m_, rfl⟩) | (go_at_call 20; refine (immI_any _ (by assumption) _).mono ?_; rintro _ _ ⟨rfl, m_, rfl⟩))
        refine fin25 4 rfl rfl rfl ⟨_, hpt, rfl, ?_, ?_⟩
        · rw [unhide hl]; rfl
        · exact gnt
      · have tt := True.intro
        have n16 := ne_b (show ((hi : Nat) : Int) ≠ 16 by omega)
        have n0 := ne_t (show ((hi : Nat) : Int) ≠ 0 by omega)
        have hl := hide (show immK 5 hi sh rd r1 (immI b) false = zero from by simp [immK, h16, h0])
        go_wp2_with (first | (go_at_call 14; refine (bits_any _ _ _ (by assumption) (by decide) (by decide) (by decide) _).mono ?_; rintro _ _ ⟨rfl, m_, rfl⟩) | (go_at_call 15; refine (rd_any _ (by assumption) _).mono ?_; rintro _ _ ⟨rfl, m_, rfl⟩) | (go_at_call 18; refine (f3_any _ (by assumption) _).mono ?_; rintro _ _ ⟨rfl, m_, rfl⟩) | (go_at_call 19; refine (rs1_any _ (by assumption) _).mono ?_; rintro _ _ ⟨rfl, m_, rfl⟩) | (go_at_call 20; refine (immI_any _ (by assumption) _).mono ?_; rintro _ _ ⟨rfl, m_, rfl⟩))
        refine fin25 4 rfl rfl rfl ⟨_, hpt, rfl, ?_, ?_⟩
        · rw [unhide hl]; rfl
        · exact gnt
    · rcases sc with s31 | s31
      · rcases hc with rfl | rfl | ⟨h16, h0⟩
        · have z31 : (sh : Int) ≤ 31 := by omega
          have z32 : ¬ (31 : Int) < sh := by omega
          have hl := hide (show immK 5 16 sh rd r1 (immI b) true = immX 20 rd r1 sh true from by simp [immK, show ¬ 31 < sh by omega])
          go_wp2_with (first | (go_at_call 14; refine (bits_any _ _ _ (by assumption) (by decide) (by decide) (by decide) _).mono ?_; rintro _ _ ⟨rfl, m_, rfl⟩) | (go_at_call 15; refine (rd_any _ (by assumption) _).mono ?_; rintro _ _ ⟨rfl, m_, rfl⟩) | (go_at_call 18; refine (f3_any _ (by assumption) _).mono ?_; rintro _ _ ⟨rfl, m_, rfl⟩) | (go_at_call 19; refine (rs1_any _ (by assumption) _).mono ?_; rintro _ _ ⟨rfl, m_, rfl⟩) | (go_at_call 20; refine (immI_any _ (by assumption) _).mono ?_; rintro _ _ ⟨rfl, m_, rfl⟩))
          refine fin25 4 rfl rfl rfl ⟨_, hpt, rfl, ?_, ?_⟩
          · rw [unhide hl]; rfl
          · exact gnt
        · have z31 : (sh : Int) ≤ 31 := by omega
          have z32 : ¬ (31 : Int) < sh := by omega
          have hl := hide (show immK 5 0 sh rd r1 (immI b) true = immX (sumK 5) rd r1 sh true from by simp [immK, show ¬ 31 < sh by omega])
          go_wp2_with (first | (go_at_call 14; refine (bits_any _ _ _ (by assumption) (by decide) (by decide) (by decide) _).mono ?_; rintro _ _ ⟨rfl, m_, rfl⟩) | (go_at_call 15; refine (rd_any _ (by assumption) _).mono ?_; rintro _ _ ⟨rfl, m_, rfl⟩) | (go_at_call 18; refine (f3_any _ (by assumption) _).mono ?_; rintro _ _ ⟨rfl, m_, rfl⟩) | (go_at_call 19; refine (rs1_any _ (by assumption) _).mono ?_; rintro _ _ ⟨rfl, m_, rfl⟩) | (go_at_call 20; refine (immI_any _ (by assumption) _).mono ?_; rintro _ _ ⟨rfl, m_, rfl⟩))
          refine fin25 4 rfl rfl rfl ⟨_, hpt, rfl, ?_, ?_⟩
          · rw [unhide hl]; rfl
          · exact gnt
        · have z31 : (sh : Int) ≤ 31 := by omega
          have z32 : ¬ (31 : Int) < sh := by omega
          have n16 := ne_b (show ((hi : Nat) : Int) ≠ 16 by omega)
          have n0 := ne_t (show ((hi : Nat) : Int) ≠ 0 by omega)
          have hl := hide (show immK 5 hi sh rd r1 (immI b) true = zero from by simp [immK, h16, h0, show ¬ 31 < sh by omega])
          go_wp2_with (first | (go_at_call 14; refine (bits_any _ _ _ (by assumption) (by decide) (by decide) (by decide) _).mono ?_; rintro _ _ ⟨rfl, m_, rfl⟩) | (go_at_call 15; refine (rd_any _ (by assumption) _).mono ?_; rintro _ _ ⟨rfl, m_, rfl⟩) | (go_at_call 18; refine (f3_any _ (by assumption) _).mono ?_; rintro _ _ ⟨rfl, m_, rfl⟩) | (go_at_call 19; refine (rs1_any _ (by assumption) _).mono ?_; rintro _ _ ⟨rfl, m_, rfl⟩) | (go_at_call 20; refine (immI_any _ (by assumption) _).mono ?_; rintro _ _ ⟨rfl, m_, rfl⟩))
          refine fin25 4 rfl rfl rfl ⟨_, hpt, rfl, ?_, ?_⟩
          · rw [unhide hl]; rfl
          · exact gnt
      · have z31 : (31 : Int) < sh := by omega
        have hl := hide (show immK 5 hi sh rd r1 (immI b) true = zero from by simp [immK, s31])
        go_wp2_with (first | (go_at_call 14; refine (bits_any _ _ _ (by assumption) (by decide) (by decide) (by decide) _).mono ?_; rintro _ _ ⟨rfl, m_, rfl⟩) | (go_at_call 15; refine (rd_any _ (by assumption) _).mono ?_; rintro _ _ ⟨rfl, m_, rfl⟩) | (go_at_call 18; refine (f3_any _ (by assumption) _).mono ?_; rintro _ _ ⟨rfl, m_, rfl⟩) | (go_at_call 19; refine (rs1_any _ (by assumption) _).mono ?_; rintro _ _ ⟨rfl, m_, rfl⟩) | (go_at_call 20; refine (immI_any _ (by assumption) _).mono ?_; rintro _ _ ⟨rfl, m_, rfl⟩))
        refine fin25 4 rfl rfl rfl ⟨_, hpt, rfl, ?_, ?_⟩
        · rw [unhide hl]; rfl
        · exact gnt
end Go.Proofs.Ytopbdiekfhikmaa
