/- Layer 20: whole. -/
import Derived.Test.YtblbgalpkodibaaDoorF2
namespace Go.Proofs.YtblbgalpkodibaaDoor
open Go.RowKit
section
variable {w0 w w' : World} {L : List HP} {b g : Nat} {F : Fr} {c : St}
theorem mark_g (hh : w.heap[g]? = some (.cells (gl c).toArray 78 (0, 0))) :
    Calls Tryd.prog 44 #[.pointer (some ⟨g, 0, none⟩)] w fun r w' => r = .returned (.agg (mkv c)) ∧ GN w w' := by
  have d0 := (gcell hh (i := 112) (by omega)).1
  have d1 := (gcell hh (i := 113) (by omega)).1
  have d2 := (gcell hh (i := 114) (by omega)).1
  have d3 := (gcell hh (i := 115) (by omega)).1
  have d4 := (gcell hh (i := 116) (by omega)).1
  have d5 := (gcell hh (i := 117) (by omega)).1
  rw [show gk 112 = .u64 from rfl] at d0
  rw [show gk 113 = .u64 from rfl] at d1
  rw [show gk 114 = .u64 from rfl] at d2
  rw [show gk 115 = .u64 from rfl] at d3
  rw [show gk 116 = .i64 from rfl] at d4
  rw [show gk 117 = .u64 from rfl] at d5
  have hlt := lt_of_heap' hh
  go_enter Tryd.func44, Tryd.ntmps44
  go_wp2
  exact bodyPost_ret (v := .agg (mkv c)) (by simp [results, Tryd.results44, go_sem, mkv]) rfl ⟨rfl, (GN.refl w).alloc _⟩
theorem info38 : (Tryd.prog.info? 38).map (fun i => (i.zero, i.size, i.bytes)) = some (some (.agg #[.int .u64 0, .int .u32 0, .int .u32 0, .int .i64 0, .int .u64 0, .int .u64 0, .int .u64 0, .int .u64 0, .int .u64 0, .int .u64 0, .int .u64 0, .int .i64 0, .int .u64 0]), 13, 96) := by kernel_rfl
set_option maxRecDepth 100000 in
set_option maxHeartbeats 4000000 in
theorem whole_f (h : Heap w0 w (HP.fr b g F :: HP.gg g c :: L)) (hcan : canF F = true) (bits inst size : Int) (hb : 0 ≤ bits ∧ bits < 4294967296) (hi : 0 ≤ inst ∧ inst < 4294967296) (hs : 0 ≤ size ∧ size ≤ 4) :
    Calls Tryd.prog 30 #[.pointer (some ⟨b, 0, none⟩), .int .u32 bits, .int .u32 inst, .int .i64 size] w fun r w' => r = .returned (.tuple #[]) ∧ Heap w0 w' (HP.fr b g (wholeF F c bits inst size) :: HP.gg g (nSt c F.at_ size) :: L) := by
  obtain ⟨i0, hi0, hz0, hz1, hz2⟩ := info_parts info38
  obtain ⟨W, hW⟩ : ∃ W, W = w := ⟨_, rfl⟩
  rw [← hW] at h ⊢
  clear hW
  obtain ⟨A, cap, hC, hh⟩ := h.fc
  have hI := hC.I
  have hlen := can_len hcan
  unfold FB at hh
  obtain ⟨gi, hg1⟩ := Heap.gg.1 hh.f3
  have hg0 := hg1.heap
  clear hg1
  obtain ⟨a0, a1⟩ := hI.at_
  obtain ⟨X, hX⟩ : ∃ X, nOut c F.at_ size = X := ⟨_, rfl⟩
  have HX := hide hX
  have hXb := nOut_bd gi F.at_ size
  rw [hX] at hXb
  have hfinI := hide (hI.whole hcan gi hb hi hs)
  have hfinE := hide (show wholeF F c bits inst size = { F with at_ := evn X, some := false, q := F.q ++ [⟨F.at_, bits, inst, size, 0, 0, evn X, c⟩] } by rw [← hX]; rfl)
  clear hX
  go_enter Tryd.func30, Tryd.ntmps30
  go_wp2_with fail
  refine wp_region_E (fun w_ => GN W w_) GN (fun k_ v_ w_ => match k_ with
      | 0 => v_ = .pointer (some ⟨b, 0, none⟩)
      | 1 => v_ = .pointer (some ⟨b, 0, none⟩)
      | 2 => v_ = .pointer (some ⟨b, 1, none⟩)
      | 3 => v_ = .int .u64 F.at_
      | 4 => v_ = .int .u32 bits
      | 5 => v_ = .int .u32 inst
      | 6 => v_ = .int .i64 size
      | 7 => v_ = .pointer (some ⟨b, 0, none⟩)
      | 8 => v_ = .pointer (some ⟨b, 0, none⟩)
      | 9 => v_ = .pointer (some ⟨b, 0, none⟩)
      | 10 => v_ = .pointer (some ⟨g, 0, none⟩)
      | 11 => v_ = .agg (mkv c)
      | 12 => v_ = .agg #[.int .u64 F.at_, .int .u32 bits, .int .u32 inst, .int .i64 size, .int .u64 0, .int .u64 0, .int .u64 0, .int .u64 (c 112), .int .u64 (c 113), .int .u64 (c 114), .int .u64 (c 115), .int .i64 (c 116), .int .u64 (c 117)]
      | _ => ∃ x, v_ = .pointer (some ⟨x, 0, none⟩) ∧ W.heap.size ≤ x ∧ w_.heap[x]? = some (.cells #[.int .u64 0, .int .u32 0, .int .u32 0, .int .i64 0, .int .u64 0, .int .u64 0, .int .u64 0, .int .u64 0, .int .u64 0, .int .u64 0, .int .u64 0, .int .i64 0, .int .u64 0] 38 (0, 0))) fol (by kernel_rfl) ?_ ?_ (n := 14) rfl rfl rfl (by kernel_rfl) ?_ ?_
  · exact (GN.refl W).drew
  · intro k_ v_ w_ w2_ h1 hg
    split at h1 <;> first | exact h1 | (obtain ⟨kk, e_, q_, r_⟩ := h1; exact ⟨kk, e_, q_, GN.heap hg r_⟩)
  · intro vals
    show wpG _ _ _ _ _ _ 0 (_ :: _) _
    refine wpG_cons (gval (.pointer (some ⟨b, 0, none⟩)) GN.refl fun w_ hJ hd => ?_) ?_
    · exact ⟨by kernel_rfl, by kernel_rfl, rfl⟩
    refine wpG_cons (gval (.pointer (some ⟨b, 0, none⟩)) GN.refl fun w_ hJ hd => ?_) ?_
    · have e0 : vals 0 = _ := hd 0 (by decide) (by kernel_rfl)
      rw [e0]
      exact ⟨by kernel_rfl, by kernel_rfl, rfl⟩
    refine wpG_cons (gval (.pointer (some ⟨b, 1, none⟩)) GN.refl fun w_ hJ hd => ?_) ?_
    · have e1 : vals 1 = _ := hd 1 (by decide) (by kernel_rfl)
      rw [e1]
      exact ⟨by kernel_rfl, by kernel_rfl, rfl⟩
    refine wpG_cons (gop (Instr.loadAt 22 (.pointer (some ⟨b, 1, none⟩))) (.int .u64 F.at_) GN.refl fun w_ hJ hd => ?_) ?_
    · have e2 : vals 2 = _ := hd 2 (by decide) (by kernel_rfl)
      rw [e2]
      exact ⟨by kernel_rfl, by kernel_rfl, run_load1 (by kernel_rfl) (hC.gn hJ).cells.2.1, rfl⟩
    refine wpG_cons (gval (.int .u32 bits) GN.refl fun w_ hJ hd => ?_) ?_
    · exact ⟨by kernel_rfl, by kernel_rfl, rfl⟩
    refine wpG_cons (gval (.int .u32 inst) GN.refl fun w_ hJ hd => ?_) ?_
    · exact ⟨by kernel_rfl, by kernel_rfl, rfl⟩
    refine wpG_cons (gval (.int .i64 size) GN.refl fun w_ hJ hd => ?_) ?_
    · exact ⟨by kernel_rfl, by kernel_rfl, rfl⟩
    refine wpG_cons (gval (.pointer (some ⟨b, 0, none⟩)) GN.refl fun w_ hJ hd => ?_) ?_
    · exact ⟨by kernel_rfl, by kernel_rfl, rfl⟩
    refine wpG_cons (gval (.pointer (some ⟨b, 0, none⟩)) GN.refl fun w_ hJ hd => ?_) ?_
    · have e7 : vals 7 = _ := hd 7 (by decide) (by kernel_rfl)
      rw [e7]
      exact ⟨by kernel_rfl, by kernel_rfl, rfl⟩
    refine wpG_cons (gval (.pointer (some ⟨b, 0, none⟩)) GN.refl fun w_ hJ hd => ?_) ?_
    · have e8 : vals 8 = _ := hd 8 (by decide) (by kernel_rfl)
      rw [e8]
      exact ⟨by kernel_rfl, by kernel_rfl, rfl⟩
    refine wpG_cons (gop (Instr.loadAt 27 (.pointer (some ⟨b, 0, none⟩))) (.pointer (some ⟨g, 0, none⟩)) GN.refl fun w_ hJ hd => ?_) ?_
    · have e9 : vals 9 = _ := hd 9 (by decide) (by kernel_rfl)
      rw [e9]
      exact ⟨by kernel_rfl, by kernel_rfl, run_load1 (by kernel_rfl) (hC.gn hJ).cells.1, rfl⟩
    refine wpG_cons (gcall 44 #[.pointer (some ⟨g, 0, none⟩)] fun w_ hJ hd => ?_) ?_
    · have e10 : vals 10 = _ := hd 10 (by decide) (by kernel_rfl)
      rw [e10]
      exact ⟨by kernel_rfl, by kernel_rfl, (mark_g (hJ.heap hg0)).mono fun r_ w'' ⟨hr_, hg_⟩ => ⟨_, hr_, hJ.trans hg_, hg_, rfl⟩⟩
    refine wpG_cons (gval (.agg #[.int .u64 F.at_, .int .u32 bits, .int .u32 inst, .int .i64 size, .int .u64 0, .int .u64 0, .int .u64 0, .int .u64 (c 112), .int .u64 (c 113), .int .u64 (c 114), .int .u64 (c 115), .int .i64 (c 116), .int .u64 (c 117)]) GN.refl fun w_ hJ hd => ?_) ?_
    · have e3 : vals 3 = _ := hd 3 (by decide) (by kernel_rfl)
      have e4 : vals 4 = _ := hd 4 (by decide) (by kernel_rfl)
      have e5 : vals 5 = _ := hd 5 (by decide) (by kernel_rfl)
      have e6 : vals 6 = _ := hd 6 (by decide) (by kernel_rfl)
      have e11 : vals 11 = _ := hd 11 (by decide) (by kernel_rfl)
      rw [e3, e4, e5, e6, e11]
      exact ⟨by kernel_rfl, by kernel_rfl, rfl⟩
    refine wpG_cons (gmake fun w_ hJ hd => ?_) wpG_nil
    · exact ⟨by kernel_rfl, _, _, Eq.refl _, hJ.alloc _, (GN.refl _).alloc _, w_.heap.size, rfl, hJ.size, heap_new' _ _⟩
  · intro vals w_ hJ hf
    have e0 : vals 0 = _ := hf 0 (by decide)
    have e1 : vals 1 = _ := hf 1 (by decide)
    have e2 : vals 2 = _ := hf 2 (by decide)
    have e3 : vals 3 = _ := hf 3 (by decide)
    have e4 : vals 4 = _ := hf 4 (by decide)
    have e5 : vals 5 = _ := hf 5 (by decide)
    have e6 : vals 6 = _ := hf 6 (by decide)
    have e7 : vals 7 = _ := hf 7 (by decide)
    have e8 : vals 8 = _ := hf 8 (by decide)
    have e9 : vals 9 = _ := hf 9 (by decide)
    have e10 : vals 10 = _ := hf 10 (by decide)
    have e11 : vals 11 = _ := hf 11 (by decide)
    have e12 : vals 12 = _ := hf 12 (by decide)
    have e13 : ∃ x, (vals 13) = .pointer (some ⟨x, 0, none⟩) ∧ W.heap.size ≤ x ∧ w_.heap[x]? = some (.cells #[.int .u64 0, .int .u32 0, .int .u32 0, .int .i64 0, .int .u64 0, .int .u64 0, .int .u64 0, .int .u64 0, .int .u64 0, .int .u64 0, .int .u64 0, .int .i64 0, .int .u64 0] 38 (0, 0)) := hf 13 (by decide)
    show Oper.wp _ _ (fillG vals 0 (_ :: _ :: _ :: _ :: _ :: _ :: _ :: _ :: _ :: _ :: _ :: _ :: _ :: _ :: []) _) _ _ _
    simp only [fillG, Nat.zero_add, Nat.reduceAdd, e0, e1, e2, e3, e4, e5, e6, e7, e8, e9, e10, e11, e12, Act.put, List.setIfInBounds_toArray, List.set_cons_succ, List.set_cons_zero]
    clear e0 e1 e2 e3 e4 e5 e6 e7 e8 e9 e10 e11 e12 hf
    generalize vals 13 = v13 at *
    obtain ⟨x, rfl, hx0, hxh⟩ := e13
    have hK := (hh.freshBlk hJ hxh hx0)
    refine wp_store_mid 38 (.tmp 8) (.tmp 21) rfl x 0 #[.int .u64 F.at_, .int .u32 bits, .int .u32 inst, .int .i64 size, .int .u64 0, .int .u64 0, .int .u64 0, .int .u64 (c 112), .int .u64 (c 113), .int .u64 (c 114), .int .u64 (c 115), .int .i64 (c 116), .int .u64 (c 117)] rfl rfl (there_blk (xs := [_, _, _, _, _, _, _, _, _, _, _, _, _]) hxh (by simp)) (by kernel_rfl) (by kernel_rfl) ?_
    show Exit.then _ _ Exit.normal (Act.put ⟨_, _⟩ none _) _
    simp only [Act.put]
    have hJ1 := (Heap.sets (itl ⟨F.at_, bits, inst, size, 0, 0, 0, c⟩) (xs := [_, _, _, _, _, _, _, _, _, _, _, _, _]) hK 0)
    rw [setL_all _ _ (by rfl)] at hJ1
    have hJ1 : Heap w0 (w_.setCells x 0 [.int .u64 F.at_, .int .u32 bits, .int .u32 inst, .int .i64 size, .int .u64 0, .int .u64 0, .int .u64 0, .int .u64 (c 112), .int .u64 (c 113), .int .u64 (c 114), .int .u64 (c 115), .int .i64 (c 116), .int .u64 (c 117)]) (HP.gg g c :: HP.blk x (itl ⟨F.at_, bits, inst, size, 0, 0, 0, c⟩).toArray 38 :: FB b g F (.slice A F.q.length cap) L) := hJ1.f4
    clear hK hxh hJ hC hh hg0 h hx0
    generalize w_.setCells x 0 [.int .u64 F.at_, .int .u32 bits, .int .u32 inst, .int .i64 size, .int .u64 0, .int .u64 0, .int .u64 0, .int .u64 (c 112), .int .u64 (c 113), .int .u64 (c 114), .int .u64 (c 115), .int .i64 (c 116), .int .u64 (c 117)] = W1 at hJ1 ⊢
    go_wp2_with fail
    refine wp_region_XE 9 (fun fl_ w_ => Heap w0 w_ (HP.gg g (bif fl_ then nSt c F.at_ size else c) :: HP.blk x (itl ⟨F.at_, bits, inst, size, 0, 0, 0, c⟩).toArray 38 :: FB b g F (.slice A F.q.length cap) L)) (fun _ _ _ => True) (fun k_ v_ w_ => match k_ with
        | 0 => v_ = .pointer (some ⟨b, 0, none⟩)
        | 1 => v_ = .pointer (some ⟨b, 0, none⟩)
        | 2 => v_ = .pointer (some ⟨b, 0, none⟩)
        | 3 => v_ = .pointer (some ⟨g, 0, none⟩)
        | 4 => v_ = .pointer (some ⟨b, 0, none⟩)
        | 5 => v_ = .pointer (some ⟨b, 0, none⟩)
        | 6 => v_ = .pointer (some ⟨b, 1, none⟩)
        | 7 => v_ = .int .u64 F.at_
        | 8 => v_ = .int .i64 size
        | 9 => v_ = .int .u64 X
        | 10 => v_ = .int .u64 (Go.bits .andNot .u64 X 1)
        | _ => v_ = .pointer (some ⟨x, 6, none⟩)) fol (by kernel_rfl) ?_ ?_ (by decide) (n := 12) rfl rfl rfl (by kernel_rfl) ?_ ?_
    · exact hJ1.drew
    · intro i_ k_ v_ w_ w2_ hne h1 hg
      split at h1 <;> exact h1
    · intro vals
      show wpX _ _ _ _ _ _ _ 0 (_ :: _) _
      refine wpX_cons (xval (.pointer (some ⟨b, 0, none⟩)) (fun _ => trivial) (by decide) fun fl_ w_ hJ hd => ?_) ?_
      · exact ⟨by kernel_rfl, by kernel_rfl, rfl⟩
      refine wpX_cons (xval (.pointer (some ⟨b, 0, none⟩)) (fun _ => trivial) (by decide) fun fl_ w_ hJ hd => ?_) ?_
      · have e0 : vals 0 = _ := hd 0 (by decide) (by kernel_rfl)
        rw [e0]
        exact ⟨by kernel_rfl, by kernel_rfl, rfl⟩
      refine wpX_cons (xval (.pointer (some ⟨b, 0, none⟩)) (fun _ => trivial) (by decide) fun fl_ w_ hJ hd => ?_) ?_
      · have e1 : vals 1 = _ := hd 1 (by decide) (by kernel_rfl)
        rw [e1]
        exact ⟨by kernel_rfl, by kernel_rfl, rfl⟩
      refine wpX_cons (xop (Instr.loadAt 27 (.pointer (some ⟨b, 0, none⟩))) (.pointer (some ⟨g, 0, none⟩)) (fun _ => trivial) (by decide) fun fl_ w_ hJ hd => ?_) ?_
      · have e2 : vals 2 = _ := hd 2 (by decide) (by kernel_rfl)
        rw [e2]
        exact ⟨by kernel_rfl, by kernel_rfl, run_load1 (by kernel_rfl) (cell_blk (Heap.heap hJ.f3) 0).1, rfl⟩
      refine wpX_cons (xval (.pointer (some ⟨b, 0, none⟩)) (fun _ => trivial) (by decide) fun fl_ w_ hJ hd => ?_) ?_
      · exact ⟨by kernel_rfl, by kernel_rfl, rfl⟩
      refine wpX_cons (xval (.pointer (some ⟨b, 0, none⟩)) (fun _ => trivial) (by decide) fun fl_ w_ hJ hd => ?_) ?_
      · have e4 : vals 4 = _ := hd 4 (by decide) (by kernel_rfl)
        rw [e4]
        exact ⟨by kernel_rfl, by kernel_rfl, rfl⟩
      refine wpX_cons (xval (.pointer (some ⟨b, 1, none⟩)) (fun _ => trivial) (by decide) fun fl_ w_ hJ hd => ?_) ?_
      · have e5 : vals 5 = _ := hd 5 (by decide) (by kernel_rfl)
        rw [e5]
        exact ⟨by kernel_rfl, by kernel_rfl, rfl⟩
      refine wpX_cons (xop (Instr.loadAt 22 (.pointer (some ⟨b, 1, none⟩))) (.int .u64 F.at_) (fun _ => trivial) (by decide) fun fl_ w_ hJ hd => ?_) ?_
      · have e6 : vals 6 = _ := hd 6 (by decide) (by kernel_rfl)
        rw [e6]
        exact ⟨by kernel_rfl, by kernel_rfl, run_load1 (by kernel_rfl) (cell_blk (Heap.heap hJ.f3) 1).1, rfl⟩
      refine wpX_cons (xval (.int .i64 size) (fun _ => trivial) (by decide) fun fl_ w_ hJ hd => ?_) ?_
      · exact ⟨by kernel_rfl, by kernel_rfl, rfl⟩
      refine wpX_cons (xcall rfl 45 #[.pointer (some ⟨g, 0, none⟩), .int .u64 F.at_, .int .i64 size] fun w_ hJ hd => ?_) ?_
      · have e3 : vals 3 = _ := hd 3 (by decide) (by kernel_rfl)
        have e7 : vals 7 = _ := hd 7 (by decide) (by kernel_rfl)
        have e8 : vals 8 = _ := hd 8 (by decide) (by kernel_rfl)
        rw [e3, e7, e8]
        exact ⟨by kernel_rfl, by kernel_rfl, (next_h (c := c) hJ F.at_ size a0 a1).mono fun r_ w'' ⟨hr_, h_⟩ => ⟨_, by rw [hr_, unhide HX], h_, trivial, rfl⟩⟩
      refine wpX_cons (xval (.int .u64 (Go.bits .andNot .u64 X 1)) (fun _ => trivial) (by decide) fun fl_ w_ hJ hd => ?_) ?_
      · have e9 : vals 9 = _ := hd 9 (by decide) (by kernel_rfl)
        rw [e9]
        exact ⟨by kernel_rfl, by kernel_rfl, rfl⟩
      refine wpX_cons (xval (.pointer (some ⟨x, 6, none⟩)) (fun _ => trivial) (by decide) fun fl_ w_ hJ hd => ?_) wpX_nil
      · exact ⟨by kernel_rfl, by kernel_rfl, rfl⟩
    · intro vals w_ hJ hf
      have e0 : vals 0 = _ := hf 0 (by decide)
      have e1 : vals 1 = _ := hf 1 (by decide)
      have e2 : vals 2 = _ := hf 2 (by decide)
      have e3 : vals 3 = _ := hf 3 (by decide)
      have e4 : vals 4 = _ := hf 4 (by decide)
      have e5 : vals 5 = _ := hf 5 (by decide)
      have e6 : vals 6 = _ := hf 6 (by decide)
      have e7 : vals 7 = _ := hf 7 (by decide)
      have e8 : vals 8 = _ := hf 8 (by decide)
      have e9 : vals 9 = _ := hf 9 (by decide)
      have e10 : vals 10 = _ := hf 10 (by decide)
      have e11 : vals 11 = _ := hf 11 (by decide)
      show Oper.wp _ _ (fillG vals 0 (_ :: _ :: _ :: _ :: _ :: _ :: _ :: _ :: _ :: _ :: _ :: _ :: []) _) _ _ _
      simp only [fillG, Nat.zero_add, Nat.reduceAdd, e0, e1, e2, e3, e4, e5, e6, e7, e8, e9, e10, e11, Act.put, List.setIfInBounds_toArray, List.set_cons_succ, List.set_cons_zero]
      clear e0 e1 e2 e3 e4 e5 e6 e7 e8 e9 e10 e11 hf
      rw [u64_not1 X hXb.1 hXb.2]
      refine wp_last_skip (w' := w_.setCell ⟨x, 6, none⟩ (.int .u64 (evn X))) (m := Instr.storeAt 22 (.pointer (some ⟨x, 6, none⟩)) (.int .u64 (evn X))) (by kernel_rfl) (run_store1 (by kernel_rfl) rfl rfl (cell_blk (Heap.heap (Heap.f2 hJ)) 6).1 (cell_blk (Heap.heap (Heap.f2 hJ)) 6).2) ?_
      show Exit.then _ _ Exit.normal (Act.put ⟨_, _⟩ none _) _
      simp only [Act.put]
      have hJ2 := ((Heap.f2 hJ).setl 6 (.int .u64 (evn X))).f2.f3.f3.f4
      have hJ2 : Heap w0 _ (HP.slw (.slice A F.q.length cap) 13 F.q.length (itsC F.q) :: HP.blk x [.int .u64 F.at_, .int .u32 bits, .int .u32 inst, .int .i64 size, .int .u64 0, .int .u64 0, .int .u64 (evn X), .int .u64 (c 112), .int .u64 (c 113), .int .u64 (c 114), .int .u64 (c 115), .int .i64 (c 116), .int .u64 (c 117)].toArray 38 :: HP.blk b (frv g F (.slice A F.q.length cap)).toArray 72 :: HP.gg g (nSt c F.at_ size) :: L) := hJ2
      clear hJ hJ1
      generalize World.setCell w_ ⟨x, 6, none⟩ (.int .u64 (evn X)) = W2 at hJ2 ⊢
      have Hsp_ : Hid (∀ g_, spare (.slice A F.q.length cap) = some g_ → g_ < W2.heap.size) := hide fun g_ hg_ => hJ2.slw.blk_lt (spare_blk hg_)
      go_wp2_with fail
      refine wp_region_XE 7 (fun fl_ w_ => (Heap w0 w_ (HP.blk x [.int .u64 F.at_, .int .u32 bits, .int .u32 inst, .int .i64 size, .int .u64 0, .int .u64 0, .int .u64 (evn X), .int .u64 (c 112), .int .u64 (c 113), .int .u64 (c 114), .int .u64 (c 115), .int .i64 (c 116), .int .u64 (c 117)].toArray 38 :: HP.blk b (frv g F (.slice A F.q.length cap)).toArray 72 :: HP.gg g (nSt c F.at_ size) :: L)) ∧ W2.heap.size ≤ w_.heap.size ∧ (fl_ = false → Heap w0 w_ (HP.slw (.slice A F.q.length cap) 13 F.q.length (itsC F.q) :: HP.blk x [.int .u64 F.at_, .int .u32 bits, .int .u32 inst, .int .i64 size, .int .u64 0, .int .u64 0, .int .u64 (evn X), .int .u64 (c 112), .int .u64 (c 113), .int .u64 (c 114), .int .u64 (c 115), .int .i64 (c 116), .int .u64 (c 117)].toArray 38 :: HP.blk b (frv g F (.slice A F.q.length cap)).toArray 72 :: HP.gg g (nSt c F.at_ size) :: L))) (fun i_ x_ y_ => match i_ with | 7 => x_.grownBy y_ (spare (.slice A F.q.length cap)) | _ => (∀ L_, Heap w0 x_ L_ → Heap w0 y_ L_) ∧ GN x_ y_) (fun k_ v_ w_ => match k_ with
          | 0 => v_ = .pointer (some ⟨b, 0, none⟩)
          | 1 => v_ = .pointer (some ⟨b, 0, none⟩)
          | 2 => v_ = .pointer (some ⟨b, 0, none⟩)
          | 3 => v_ = .pointer (some ⟨b, 5, none⟩)
          | 4 => v_ = .slice A F.q.length cap
          | 5 => v_ = .agg #[.int .u64 F.at_, .int .u32 bits, .int .u32 inst, .int .i64 size, .int .u64 0, .int .u64 0, .int .u64 (evn X), .int .u64 (c 112), .int .u64 (c 113), .int .u64 (c 114), .int .u64 (c 115), .int .i64 (c 116), .int .u64 (c 117)]
          | 6 => ∃ kk : Nat, v_ = .slice (some ⟨kk, 0, none⟩) 1 1 ∧ W2.heap.size ≤ kk ∧ w_.heap[kk]? = some (.cells #[.int .u64 F.at_, .int .u32 bits, .int .u32 inst, .int .i64 size, .int .u64 0, .int .u64 0, .int .u64 (evn X), .int .u64 (c 112), .int .u64 (c 113), .int .u64 (c 114), .int .u64 (c 115), .int .i64 (c 116), .int .u64 (c 117)] 38 (0, 0))
          | 7 => Heap w0 w_ (HP.slw v_ 13 (F.q.length + 1) (itsC F.q ++ [.int .u64 F.at_, .int .u32 bits, .int .u32 inst, .int .i64 size, .int .u64 0, .int .u64 0, .int .u64 (evn X), .int .u64 (c 112), .int .u64 (c 113), .int .u64 (c 114), .int .u64 (c 115), .int .i64 (c 116), .int .u64 (c 117)]) :: HP.blk x [.int .u64 F.at_, .int .u32 bits, .int .u32 inst, .int .i64 size, .int .u64 0, .int .u64 0, .int .u64 (evn X), .int .u64 (c 112), .int .u64 (c 113), .int .u64 (c 114), .int .u64 (c 115), .int .i64 (c 116), .int .u64 (c 117)].toArray 38 :: HP.blk b (frv g F (.slice A F.q.length cap)).toArray 72 :: HP.gg g (nSt c F.at_ size) :: L)
          | 8 => v_ = .pointer (some ⟨b, 0, none⟩)
          | _ => v_ = .pointer (some ⟨b, 5, none⟩)) fol (by kernel_rfl) ?_ ?_ (by decide) (n := 10) rfl rfl rfl (by kernel_rfl) ?_ ?_
      · exact ⟨hJ2.tail.drew, Nat.le_refl _, fun _ => hJ2.drew⟩
      · intro i_ k_ v_ w_ w2_ hne h1 hg
        split at h1
        all_goals first
          | exact h1
          | (obtain ⟨kk, e_, q_, r_⟩ := h1; split at hg; exact ⟨kk, e_, q_, (World.grownBy.block hg kk (lt_of_heap' r_) (fun c_ => by have := unhide Hsp_ _ c_.symm; omega)).trans r_⟩; exact ⟨kk, e_, q_, hg.2.heap r_⟩)
          | (split at hg; exact absurd rfl hne; exact hg.1 _ h1)
      · intro vals
        show wpX _ _ _ _ _ _ _ 0 (_ :: _) _
        refine wpX_cons (xval (.pointer (some ⟨b, 0, none⟩)) (fun _ => ⟨fun _ h_ => h_, GN.refl _⟩) (by decide) fun fl_ w_ hJ hd => ?_) ?_
        · exact ⟨by kernel_rfl, by kernel_rfl, rfl⟩
        refine wpX_cons (xval (.pointer (some ⟨b, 0, none⟩)) (fun _ => ⟨fun _ h_ => h_, GN.refl _⟩) (by decide) fun fl_ w_ hJ hd => ?_) ?_
        · exact ⟨by kernel_rfl, by kernel_rfl, rfl⟩
        refine wpX_cons (xval (.pointer (some ⟨b, 0, none⟩)) (fun _ => ⟨fun _ h_ => h_, GN.refl _⟩) (by decide) fun fl_ w_ hJ hd => ?_) ?_
        · have e1 : vals 1 = _ := hd 1 (by decide) (by kernel_rfl)
          rw [e1]
          exact ⟨by kernel_rfl, by kernel_rfl, rfl⟩
        refine wpX_cons (xval (.pointer (some ⟨b, 5, none⟩)) (fun _ => ⟨fun _ h_ => h_, GN.refl _⟩) (by decide) fun fl_ w_ hJ hd => ?_) ?_
        · have e2 : vals 2 = _ := hd 2 (by decide) (by kernel_rfl)
          rw [e2]
          exact ⟨by kernel_rfl, by kernel_rfl, rfl⟩
        refine wpX_cons (xop (Instr.loadAt 45 (.pointer (some ⟨b, 5, none⟩))) (.slice A F.q.length cap) (fun _ => ⟨fun _ h_ => h_, GN.refl _⟩) (by decide) fun fl_ w_ hJ hd => ?_) ?_
        · have e3 : vals 3 = _ := hd 3 (by decide) (by kernel_rfl)
          rw [e3]
          exact ⟨by kernel_rfl, by kernel_rfl, run_load1 (by kernel_rfl) (cell_blk (Heap.heap (Heap.f2 hJ.1)) 5).1, rfl⟩
        refine wpX_cons (xop (Instr.loadAt 38 (.pointer (some ⟨x, 0, none⟩))) (.agg #[.int .u64 F.at_, .int .u32 bits, .int .u32 inst, .int .i64 size, .int .u64 0, .int .u64 0, .int .u64 (evn X), .int .u64 (c 112), .int .u64 (c 113), .int .u64 (c 114), .int .u64 (c 115), .int .i64 (c 116), .int .u64 (c 117)]) (fun _ => ⟨fun _ h_ => h_, GN.refl _⟩) (by decide) fun fl_ w_ hJ hd => ?_) ?_
        · exact ⟨by kernel_rfl, by kernel_rfl, run_loadAt_mid w_ x 0 38 [.int .u64 F.at_, .int .u32 bits, .int .u32 inst, .int .i64 size, .int .u64 0, .int .u64 0, .int .u64 (evn X), .int .u64 (c 112), .int .u64 (c 113), .int .u64 (c 114), .int .u64 (c 115), .int .i64 (c 116), .int .u64 (c 117)] _ (range_blk (Heap.heap hJ.1) 0 13 _ rfl) Tryd.underlying38 rfl (by kernel_rfl), rfl⟩
        refine wpX_cons (xmake (by decide) fun fl_ w_ hJ hd => ?_) ?_
        · have e5 : vals 5 = _ := hd 5 (by decide) (by kernel_rfl)
          rw [e5]
          exact ⟨by kernel_rfl, _, w_.alloc (.cells #[.int .u64 F.at_, .int .u32 bits, .int .u32 inst, .int .i64 size, .int .u64 0, .int .u64 0, .int .u64 (evn X), .int .u64 (c 112), .int .u64 (c 113), .int .u64 (c 114), .int .u64 (c 115), .int .i64 (c 116), .int .u64 (c 117)] 38), (by kernel_rfl : _ = Result.ok (Next.value (.slice (some ⟨w_.heap.size, 0, none⟩) 1 1)) _), ⟨hJ.1.alloc _, Nat.le_trans hJ.2.1 (by simp), fun h_ => (hJ.2.2 h_).alloc _⟩, ⟨fun _ h_ => h_.alloc _, grown_b1 _ _⟩, w_.heap.size, rfl, hJ.2.1, heap_new' _ _⟩
        refine wpX_cons (xevent rfl fun w_ hJ hd => ?_) ?_
        · have e4 : vals 4 = _ := hd 4 (by decide) (by kernel_rfl)
          have e6 : ∃ kk : Nat, (vals 6) = .slice (some ⟨kk, 0, none⟩) 1 1 ∧ W2.heap.size ≤ kk ∧ w_.heap[kk]? = some (.cells #[.int .u64 F.at_, .int .u32 bits, .int .u32 inst, .int .i64 size, .int .u64 0, .int .u64 0, .int .u64 (evn X), .int .u64 (c 112), .int .u64 (c 113), .int .u64 (c 114), .int .u64 (c 115), .int .i64 (c 116), .int .u64 (c 117)] 38 (0, 0)) := hd 6 (by decide) (by kernel_rfl)
          rw [e4]
          obtain ⟨kk, e_, q_, r_⟩ := e6
          rw [e_]
          have hB_ := hJ.2.2 rfl
          obtain ⟨v', w', hr_, hsl_, hgr_, hblk_, _⟩ := run_append_sl (P := Tryd.prog) w_ 45 45 38 i0 _ 13 96 Tryd.underlying45 hi0 hz0 hz1 hz2 rfl hB_.slw (sl_blk (n := 1) (sz := 13) (xs := [.int .u64 F.at_, .int .u32 bits, .int .u32 inst, .int .i64 size, .int .u64 0, .int .u64 0, .int .u64 (evn X), .int .u64 (c 112), .int .u64 (c 113), .int .u64 (c 114), .int .u64 (c 115), .int .i64 (c 116), .int .u64 (c 117)]) r_ rfl) (itl_cell ⟨F.at_, bits, inst, size, 0, 0, evn X, c⟩) (by omega) (by omega)
          have hA_ := hB_.appendw hsl_ hgr_ hblk_
          exact ⟨by kernel_rfl, v', w', Eq.trans (b := Sem.run Tryd.prog (do let r ← Builtin.append_ #[45, 45] 45 #[.slice A F.q.length cap, .slice (some ⟨kk, 0, none⟩) 1 1]; pure (Next.value r)) w_) (by kernel_rfl) (run_val hr_), ⟨hA_.tail, Nat.le_trans hJ.2.1 hgr_.size, fun h_ => by cases h_⟩, hgr_, hA_⟩
        refine wpX_cons (xval (.pointer (some ⟨b, 0, none⟩)) (fun _ => ⟨fun _ h_ => h_, GN.refl _⟩) (by decide) fun fl_ w_ hJ hd => ?_) ?_
        · have e0 : vals 0 = _ := hd 0 (by decide) (by kernel_rfl)
          rw [e0]
          exact ⟨by kernel_rfl, by kernel_rfl, rfl⟩
        refine wpX_cons (xval (.pointer (some ⟨b, 5, none⟩)) (fun _ => ⟨fun _ h_ => h_, GN.refl _⟩) (by decide) fun fl_ w_ hJ hd => ?_) wpX_nil
        · have e8 : vals 8 = _ := hd 8 (by decide) (by kernel_rfl)
          rw [e8]
          exact ⟨by kernel_rfl, by kernel_rfl, rfl⟩
      · intro vals w_ hJ hf
        have e0 : vals 0 = _ := hf 0 (by decide)
        have e1 : vals 1 = _ := hf 1 (by decide)
        have e2 : vals 2 = _ := hf 2 (by decide)
        have e3 : vals 3 = _ := hf 3 (by decide)
        have e4 : vals 4 = _ := hf 4 (by decide)
        have e5 : vals 5 = _ := hf 5 (by decide)
        have e8 : vals 8 = _ := hf 8 (by decide)
        have e9 : vals 9 = _ := hf 9 (by decide)
        have e7 : Heap w0 w_ (HP.slw (vals 7) 13 (F.q.length + 1) (itsC F.q ++ [.int .u64 F.at_, .int .u32 bits, .int .u32 inst, .int .i64 size, .int .u64 0, .int .u64 0, .int .u64 (evn X), .int .u64 (c 112), .int .u64 (c 113), .int .u64 (c 114), .int .u64 (c 115), .int .i64 (c 116), .int .u64 (c 117)]) :: HP.blk x [.int .u64 F.at_, .int .u32 bits, .int .u32 inst, .int .i64 size, .int .u64 0, .int .u64 0, .int .u64 (evn X), .int .u64 (c 112), .int .u64 (c 113), .int .u64 (c 114), .int .u64 (c 115), .int .i64 (c 116), .int .u64 (c 117)].toArray 38 :: HP.blk b (frv g F (.slice A F.q.length cap)).toArray 72 :: HP.gg g (nSt c F.at_ size) :: L) := hf 7 (by decide)
        show Oper.wp _ _ (fillG vals 0 (_ :: _ :: _ :: _ :: _ :: _ :: _ :: _ :: _ :: _ :: []) _) _ _ _
        simp only [fillG, Nat.zero_add, Nat.reduceAdd, e0, e1, e2, e3, e4, e5, e8, e9, Act.put, List.setIfInBounds_toArray, List.set_cons_succ, List.set_cons_zero]
        clear e0 e1 e2 e3 e4 e5 e8 e9 hf
        generalize vals 6 = v6 at *
        generalize vals 7 = v7 at *
        obtain ⟨A2, cap2, rfl, _⟩ := (Heap.slw e7).parts
        have b5 := cell_blk (Heap.heap (Heap.f3 e7)) 5
        refine wp_last_skip (w' := w_.setCell ⟨b, 5, none⟩ (.slice A2 (F.q.length + 1) cap2)) (m := Instr.storeAt 45 (.pointer (some ⟨b, 5, none⟩)) (.slice A2 (F.q.length + 1) cap2)) (by kernel_rfl) (run_store1 (by kernel_rfl) rfl rfl b5.1 b5.2) ?_
        show Exit.then _ _ Exit.normal (Act.put ⟨_, _⟩ none _) _
        simp only [Act.put]
        have hJ3 := (Heap.f3 e7).setl 5 (.slice A2 (F.q.length + 1) cap2)
        clear b5 e7 hJ hJ2 Hsp_
        generalize World.setCell w_ ⟨b, 5, none⟩ (.slice A2 (F.q.length + 1) cap2) = W3 at hJ3 ⊢
        have x6 := (cell_blk (Heap.heap (Heap.f3 hJ3)) 6).1
        have b1 := (cell_blk (Heap.heap hJ3) 1)
        have b3 := (cell_blk (Heap.heap hJ3) 3)
        obtain ⟨b1, b1f⟩ := b1
        obtain ⟨b3, b3f⟩ := b3
        have x6 : W3.cell? ⟨x, 6, none⟩ = some (.int .u64 (evn X)) := x6
        have b1 : W3.cell? ⟨b, 1, none⟩ = some (.int .u64 F.at_) := b1
        have b3 : W3.cell? ⟨b, 3, none⟩ = some (.bool F.some) := b3
        have hbl := lt_of_heap' (Heap.heap hJ3)
        have hxl := lt_of_heap' (Heap.heap (Heap.f3 hJ3))
        have hJ4 := hide ((hJ3.setl 1 (.int .u64 (evn X))).setl 3 (.bool false))
        clear hJ3
        go_wp2
        refine bodyPost_end (v := .tuple #[]) (by simp [results, Tryd.results30, go_sem]) rfl ⟨rfl, ?_⟩
        have hI2 := unhide hfinI
        rw [unhide hfinE] at hI2 ⊢
        refine Heap.fr.2 ⟨.slice A2 (F.q.length + 1) cap2, hI2, ?_⟩
        unfold FB
        rw [itsC_snoc, List.length_append]
        exact (unhide hJ4).f3.tail
end
end Go.Proofs.YtblbgalpkodibaaDoor
