/- Layer 20, the document's front: Fail. -/
import Derived.Test.YtblbgalpkodibaaDoorH1
namespace Go.Proofs.YtblbgalpkodibaaDoor
open Go.RowKit
theorem info61 : (Tryd.prog.info? 61).map (fun i => (i.zero, i.size, i.bytes)) = some (some (.agg #[.int .u64 0, .int .u32 0, .int .u32 0, .int .i64 0, .int .u64 0, .int .u64 0, .int .u64 0, .int .u64 0, .int .u64 0, .int .u64 0, .int .u64 0, .int .i64 0, .int .u64 0]), 13, 96) := by kernel_rfl
section
variable {w0 w w' : World} {L : List HP} {b g : Nat} {F : Fr} {c : St}
set_option maxRecDepth 100000 in
set_option maxHeartbeats 4000000 in
theorem failR_f (hI : FI F) (h : Heap w0 w (HP.rf b g F :: L)) (cause : Int) (_hu : 0 ≤ cause ∧ cause < 18446744073709551616) :
    Calls Tryd.prog 22 #[.pointer (some ⟨b, 0, none⟩), .int .u64 cause] w fun r w' => r = .returned (.bool (canF F)) ∧ Heap w0 w' (HP.rf b g (failF F cause) :: L) := by
  obtain ⟨i0, hi0, hz0, hz1, hz2⟩ := info_parts info61
  have hcall := hide (wantR_f hI h)
  have H0 := hide h
  obtain ⟨hs, A1, c1, A, cap, _, hh⟩ := h.rfo
  have hab := atF_bd hI
  obtain ⟨av, hav⟩ : ∃ av, (bif canF F then atF F else 0) = av := ⟨_, rfl⟩
  obtain ⟨cv, hcv⟩ : ∃ cv, canF F = cv := ⟨_, rfl⟩
  have hlen := hI.len
  rw [hav, hcv] at hcall
  rw [hcv] at hav
  rw [hcv]
  unfold RB at hh
  obtain ⟨F2, hF2⟩ : ∃ F2, failF F cause = F2 := ⟨_, rfl⟩
  rw [hF2]
  have HF2 := hide hF2
  clear hF2
  go_enter Tryd.func22, Tryd.ntmps22
  go_wp2_with fail
  refine (unhide hcall).mono ?_
  rintro r w1 ⟨rfl, hg1⟩
  have hh := hh.grown hg1
  have H0 := hide ((unhide H0).grown hg1)
  clear hcall h
  cases cv with
  | false =>
    have Hcv := hide hcv
    clear hcv hav
    go_wp2
    go_ret
    exact ⟨rfl, by rw [← unhide HF2, show failF F cause = F from by unfold failF; rw [unhide Hcv]; rfl]; exact unhide H0⟩
  | true =>
    have hlt := can_len hcv
    simp only [cond_true] at hav
    have hfinE := hide <| show failF F cause = trapF F 0 0 cause av by unfold failF; rw [hcv, hav]; rfl
    clear hcv hav H0
    have hJ2 : Heap w0 w1 (HP.slw (.slice A F.q.length cap) 13 F.q.length (itsC F.q) :: HP.blk b (rfv g F (.slice A1 hs.length c1) (.slice A F.q.length cap)).toArray 69 :: HP.slw (.slice A1 hs.length c1) 1 hs.length (hvs hs) :: L) := hh.f3
    clear hh
    have Hsp_ : Hid (∀ g_, spare (.slice A F.q.length cap) = some g_ → g_ < w1.heap.size) := hide fun g_ hg_ => hJ2.slw.blk_lt (spare_blk hg_)
    go_wp2_with fail
    refine wp_region_XE 13 (fun fl_ w_ => (Heap w0 w_ (HP.blk b (rfv g F (.slice A1 hs.length c1) (.slice A F.q.length cap)).toArray 69 :: HP.slw (.slice A1 hs.length c1) 1 hs.length (hvs hs) :: L)) ∧ w1.heap.size ≤ w_.heap.size ∧ (fl_ = false → Heap w0 w_ (HP.slw (.slice A F.q.length cap) 13 F.q.length (itsC F.q) :: HP.blk b (rfv g F (.slice A1 hs.length c1) (.slice A F.q.length cap)).toArray 69 :: HP.slw (.slice A1 hs.length c1) 1 hs.length (hvs hs) :: L))) (fun i_ x_ y_ => match i_ with | 13 => x_.grownBy y_ (spare (.slice A F.q.length cap)) | _ => (∀ L_, Heap w0 x_ L_ → Heap w0 y_ L_) ∧ GN x_ y_) (fun k_ v_ w_ => match k_ with
        | 0 => v_ = .pointer (some ⟨b, 0, none⟩)
        | 1 => v_ = .pointer (some ⟨b, 0, none⟩)
        | 2 => v_ = .pointer (some ⟨b, 0, none⟩)
        | 3 => v_ = .pointer (some ⟨b, 4, none⟩)
        | 4 => v_ = .slice A F.q.length cap
        | 5 => v_ = .pointer (some ⟨b, 0, none⟩)
        | 6 => v_ = .pointer (some ⟨b, 0, none⟩)
        | 7 => v_ = .pointer (some ⟨b, 1, none⟩)
        | 8 => v_ = .int .u64 F.at_
        | 9 => v_ = .int .u64 cause
        | 10 => v_ = .int .u64 av
        | 11 => v_ = .agg #[.int .u64 F.at_, .int .u32 0, .int .u32 0, .int .i64 0, .int .u64 cause, .int .u64 av, .int .u64 0, .int .u64 0, .int .u64 0, .int .u64 0, .int .u64 0, .int .i64 0, .int .u64 0]
        | 12 => ∃ kk : Nat, v_ = .slice (some ⟨kk, 0, none⟩) 1 1 ∧ w1.heap.size ≤ kk ∧ w_.heap[kk]? = some (.cells #[.int .u64 F.at_, .int .u32 0, .int .u32 0, .int .i64 0, .int .u64 cause, .int .u64 av, .int .u64 0, .int .u64 0, .int .u64 0, .int .u64 0, .int .u64 0, .int .i64 0, .int .u64 0] 61 (0, 0))
        | 13 => Heap w0 w_ (HP.slw v_ 13 (F.q.length + 1) (itsC F.q ++ [.int .u64 F.at_, .int .u32 0, .int .u32 0, .int .i64 0, .int .u64 cause, .int .u64 av, .int .u64 0, .int .u64 0, .int .u64 0, .int .u64 0, .int .u64 0, .int .i64 0, .int .u64 0]) :: HP.blk b (rfv g F (.slice A1 hs.length c1) (.slice A F.q.length cap)).toArray 69 :: HP.slw (.slice A1 hs.length c1) 1 hs.length (hvs hs) :: L)
        | 14 => v_ = .pointer (some ⟨b, 0, none⟩)
        | _ => v_ = .pointer (some ⟨b, 4, none⟩)) fol (by kernel_rfl) ?_ ?_ (by decide) (n := 16) rfl rfl rfl (by kernel_rfl) ?_ ?_
    · exact ⟨hJ2.tail.drew, Nat.le_refl _, fun _ => hJ2.drew⟩
    · intro i_ k_ v_ w_ w2_ hne h1 hg
      split at h1
      all_goals first
        | exact h1
        | (obtain ⟨kk, e_, q_, r_⟩ := h1; split at hg; exact ⟨kk, e_, q_, (World.grownBy.block hg kk (lt_of_heap' r_) (fun c_ => by have := unhide Hsp_ _ c_.symm; omega)).trans r_⟩; exact ⟨kk, e_, q_, hg.2.heap r_⟩)
        | (split at hg; exact absurd rfl hne; exact hg.1 _ h1)
    · intro vals
      show wpX _ _ _ _ _ _ _ 0 (_ :: _) _
      refine wpX_cons (xval (.pointer (some ⟨b, 0, none⟩)) (fun _ => ⟨fun _ h_ => h_, GN.refl _⟩) (by decide) fun fl_ w_ hJ hd => ?_) ?_
      · exact ⟨by kernel_rfl, by kernel_rfl, rfl⟩
      refine wpX_cons (xval (.pointer (some ⟨b, 0, none⟩)) (fun _ => ⟨fun _ h_ => h_, GN.refl _⟩) (by decide) fun fl_ w_ hJ hd => ?_) ?_
      · exact ⟨by kernel_rfl, by kernel_rfl, rfl⟩
      refine wpX_cons (xval (.pointer (some ⟨b, 0, none⟩)) (fun _ => ⟨fun _ h_ => h_, GN.refl _⟩) (by decide) fun fl_ w_ hJ hd => ?_) ?_
      · have e1 : vals 1 = _ := hd 1 (by decide) (by kernel_rfl)
        rw [e1]
        exact ⟨by kernel_rfl, by kernel_rfl, rfl⟩
      refine wpX_cons (xval (.pointer (some ⟨b, 4, none⟩)) (fun _ => ⟨fun _ h_ => h_, GN.refl _⟩) (by decide) fun fl_ w_ hJ hd => ?_) ?_
      · have e2 : vals 2 = _ := hd 2 (by decide) (by kernel_rfl)
        rw [e2]
        exact ⟨by kernel_rfl, by kernel_rfl, rfl⟩
      refine wpX_cons (xop (Instr.loadAt 67 (.pointer (some ⟨b, 4, none⟩))) (.slice A F.q.length cap) (fun _ => ⟨fun _ h_ => h_, GN.refl _⟩) (by decide) fun fl_ w_ hJ hd => ?_) ?_
      · have e3 : vals 3 = _ := hd 3 (by decide) (by kernel_rfl)
        rw [e3]
        exact ⟨by kernel_rfl, by kernel_rfl, run_load1 (by kernel_rfl) (cell_blk (Heap.heap hJ.1) 4).1, rfl⟩
      refine wpX_cons (xval (.pointer (some ⟨b, 0, none⟩)) (fun _ => ⟨fun _ h_ => h_, GN.refl _⟩) (by decide) fun fl_ w_ hJ hd => ?_) ?_
      · exact ⟨by kernel_rfl, by kernel_rfl, rfl⟩
      refine wpX_cons (xval (.pointer (some ⟨b, 0, none⟩)) (fun _ => ⟨fun _ h_ => h_, GN.refl _⟩) (by decide) fun fl_ w_ hJ hd => ?_) ?_
      · have e5 : vals 5 = _ := hd 5 (by decide) (by kernel_rfl)
        rw [e5]
        exact ⟨by kernel_rfl, by kernel_rfl, rfl⟩
      refine wpX_cons (xval (.pointer (some ⟨b, 1, none⟩)) (fun _ => ⟨fun _ h_ => h_, GN.refl _⟩) (by decide) fun fl_ w_ hJ hd => ?_) ?_
      · have e6 : vals 6 = _ := hd 6 (by decide) (by kernel_rfl)
        rw [e6]
        exact ⟨by kernel_rfl, by kernel_rfl, rfl⟩
      refine wpX_cons (xop (Instr.loadAt 22 (.pointer (some ⟨b, 1, none⟩))) (.int .u64 F.at_) (fun _ => ⟨fun _ h_ => h_, GN.refl _⟩) (by decide) fun fl_ w_ hJ hd => ?_) ?_
      · have e7 : vals 7 = _ := hd 7 (by decide) (by kernel_rfl)
        rw [e7]
        exact ⟨by kernel_rfl, by kernel_rfl, run_load1 (by kernel_rfl) (cell_blk (Heap.heap hJ.1) 1).1, rfl⟩
      refine wpX_cons (xval (.int .u64 cause) (fun _ => ⟨fun _ h_ => h_, GN.refl _⟩) (by decide) fun fl_ w_ hJ hd => ?_) ?_
      · exact ⟨by kernel_rfl, by kernel_rfl, rfl⟩
      refine wpX_cons (xval (.int .u64 av) (fun _ => ⟨fun _ h_ => h_, GN.refl _⟩) (by decide) fun fl_ w_ hJ hd => ?_) ?_
      · exact ⟨by kernel_rfl, by kernel_rfl, rfl⟩
      refine wpX_cons (xval (.agg #[.int .u64 F.at_, .int .u32 0, .int .u32 0, .int .i64 0, .int .u64 cause, .int .u64 av, .int .u64 0, .int .u64 0, .int .u64 0, .int .u64 0, .int .u64 0, .int .i64 0, .int .u64 0]) (fun _ => ⟨fun _ h_ => h_, GN.refl _⟩) (by decide) fun fl_ w_ hJ hd => ?_) ?_
      · have e8 : vals 8 = _ := hd 8 (by decide) (by kernel_rfl)
        have e9 : vals 9 = _ := hd 9 (by decide) (by kernel_rfl)
        have e10 : vals 10 = _ := hd 10 (by decide) (by kernel_rfl)
        rw [e8, e9, e10]
        exact ⟨by kernel_rfl, by kernel_rfl, rfl⟩
      refine wpX_cons (xmake (by decide) fun fl_ w_ hJ hd => ?_) ?_
      · have e11 : vals 11 = _ := hd 11 (by decide) (by kernel_rfl)
        rw [e11]
        exact ⟨by kernel_rfl, _, w_.alloc (.cells #[.int .u64 F.at_, .int .u32 0, .int .u32 0, .int .i64 0, .int .u64 cause, .int .u64 av, .int .u64 0, .int .u64 0, .int .u64 0, .int .u64 0, .int .u64 0, .int .i64 0, .int .u64 0] 61), (by kernel_rfl : _ = Result.ok (Next.value (.slice (some ⟨w_.heap.size, 0, none⟩) 1 1)) _), ⟨hJ.1.alloc _, Nat.le_trans hJ.2.1 (by simp), fun h_ => (hJ.2.2 h_).alloc _⟩, ⟨fun _ h_ => h_.alloc _, grown_b1 _ _⟩, w_.heap.size, rfl, hJ.2.1, heap_new' _ _⟩
      refine wpX_cons (xevent rfl fun w_ hJ hd => ?_) ?_
      · have e4 : vals 4 = _ := hd 4 (by decide) (by kernel_rfl)
        have e12 : ∃ kk : Nat, (vals 12) = .slice (some ⟨kk, 0, none⟩) 1 1 ∧ w1.heap.size ≤ kk ∧ w_.heap[kk]? = some (.cells #[.int .u64 F.at_, .int .u32 0, .int .u32 0, .int .i64 0, .int .u64 cause, .int .u64 av, .int .u64 0, .int .u64 0, .int .u64 0, .int .u64 0, .int .u64 0, .int .i64 0, .int .u64 0] 61 (0, 0)) := hd 12 (by decide) (by kernel_rfl)
        rw [e4]
        obtain ⟨kk, e_, q_, r_⟩ := e12
        rw [e_]
        have hB_ := hJ.2.2 rfl
        obtain ⟨v', w', hr_, hsl_, hgr_, hblk_, _⟩ := run_append_sl (P := Tryd.prog) w_ 67 67 61 i0 _ 13 96 Tryd.underlying67 hi0 hz0 hz1 hz2 rfl hB_.slw (sl_blk (n := 1) (sz := 13) (xs := [.int .u64 F.at_, .int .u32 0, .int .u32 0, .int .i64 0, .int .u64 cause, .int .u64 av, .int .u64 0, .int .u64 0, .int .u64 0, .int .u64 0, .int .u64 0, .int .i64 0, .int .u64 0]) r_ rfl) (itl_cell ⟨F.at_, 0, 0, 0, cause, av, 0, Z0⟩) (by omega) (by omega)
        have hA_ := hB_.appendw hsl_ hgr_ hblk_
        exact ⟨by kernel_rfl, v', w', Eq.trans (b := Sem.run Tryd.prog (do let r ← Builtin.append_ #[67, 67] 67 #[.slice A F.q.length cap, .slice (some ⟨kk, 0, none⟩) 1 1]; pure (Next.value r)) w_) (by kernel_rfl) (run_val hr_), ⟨hA_.tail, Nat.le_trans hJ.2.1 hgr_.size, fun h_ => by cases h_⟩, hgr_, hA_⟩
      refine wpX_cons (xval (.pointer (some ⟨b, 0, none⟩)) (fun _ => ⟨fun _ h_ => h_, GN.refl _⟩) (by decide) fun fl_ w_ hJ hd => ?_) ?_
      · have e0 : vals 0 = _ := hd 0 (by decide) (by kernel_rfl)
        rw [e0]
        exact ⟨by kernel_rfl, by kernel_rfl, rfl⟩
      refine wpX_cons (xval (.pointer (some ⟨b, 4, none⟩)) (fun _ => ⟨fun _ h_ => h_, GN.refl _⟩) (by decide) fun fl_ w_ hJ hd => ?_) wpX_nil
      · have e14 : vals 14 = _ := hd 14 (by decide) (by kernel_rfl)
        rw [e14]
        exact ⟨by kernel_rfl, by kernel_rfl, rfl⟩
    intro vals w_ hJ hf
    have e0 : vals 0 = _ := hf 0 (by decide)
    have e1 : vals 1 = _ := hf 1 (by decide)
    have e2 : vals 2 = _ := hf 2 (by decide)
    have e3 : vals 3 = _ := hf 3 (by decide)
    have e4 : vals 4 = _ := hf 4 (by decide)
    have e5 : vals 5 = _ := hf 5 (by decide)
    have e6 : vals 6 = _ := hf 6 (by decide)
    have e7 : vals 7 = _ := hf 7 (by decide)
    have e8 : vals 8 = _ := hf 8 (by decide)
    have e9 : vals 9 = _ := hf 9 (by decide)
    have e10 : vals 10 = _ := hf 10 (by decide)
    have e11 : vals 11 = _ := hf 11 (by decide)
    have e14 : vals 14 = _ := hf 14 (by decide)
    have e15 : vals 15 = _ := hf 15 (by decide)
    have e13 : Heap w0 w_ (HP.slw (vals 13) 13 (F.q.length + 1) (itsC F.q ++ [.int .u64 F.at_, .int .u32 0, .int .u32 0, .int .i64 0, .int .u64 cause, .int .u64 av, .int .u64 0, .int .u64 0, .int .u64 0, .int .u64 0, .int .u64 0, .int .i64 0, .int .u64 0]) :: HP.blk b (rfv g F (.slice A1 hs.length c1) (.slice A F.q.length cap)).toArray 69 :: HP.slw (.slice A1 hs.length c1) 1 hs.length (hvs hs) :: L) := hf 13 (by decide)
    show Oper.wp _ _ (fillG vals 0 (_ :: _ :: _ :: _ :: _ :: _ :: _ :: _ :: _ :: _ :: _ :: _ :: _ :: _ :: _ :: _ :: []) _) _ _ _
    simp only [fillG, Nat.zero_add, Nat.reduceAdd, e0, e1, e2, e3, e4, e5, e6, e7, e8, e9, e10, e11, e14, e15, Act.put, List.setIfInBounds_toArray, List.set_cons_succ, List.set_cons_zero]
    clear e0 e1 e2 e3 e4 e5 e6 e7 e8 e9 e10 e11 e14 e15 hf
    generalize vals 12 = v12 at *
    generalize vals 13 = v13 at *
    obtain ⟨A2, cap2, rfl, _⟩ := (Heap.slw e13).parts
    have b5 := cell_blk (Heap.heap (Heap.f2 e13)) 4
    show Oper.wp _ (Oper.mk none _ _ _ _ _) _ _ _ _
    refine wp_last_skip (w' := w_.setCell ⟨b, 4, none⟩ (.slice A2 (F.q.length + 1) cap2)) (m := Instr.storeAt 67 (.pointer (some ⟨b, 4, none⟩)) (.slice A2 (F.q.length + 1) cap2)) (by kernel_rfl) (run_store1 (by kernel_rfl) rfl rfl b5.1 b5.2) ?_
    show Exit.then _ _ Exit.normal (Act.put ⟨_, _⟩ none _) _
    simp only [Act.put]
    have hJ3 := (Heap.f2 e13).setl 4 (.slice A2 (F.q.length + 1) cap2)
    clear b5 e13 hJ hJ2 Hsp_
    generalize World.setCell w_ ⟨b, 4, none⟩ (.slice A2 (F.q.length + 1) cap2) = W3 at hJ3 ⊢
    obtain ⟨b4, b4f⟩ := (cell_blk (Heap.heap hJ3) 3)
    have b4 : W3.cell? ⟨b, 3, none⟩ = some (.bool F.stop) := b4
    have hbl := lt_of_heap' (Heap.heap hJ3)
    have hJ4 := hide (hJ3.setl 3 (.bool true))
    clear hJ3
    go_wp2
    go_ret
    refine ⟨rfl, ?_⟩
    rw [← unhide HF2, unhide hfinE]
    refine Heap.rfc hs (.slice A1 hs.length c1) (.slice A2 (F.q.length + 1) cap2) (fun h => by cases h) ?_
    unfold RB trapF
    rw [itsC_snoc, List.length_append]
    exact Heap.sort (L1 := [_, _, _]) (L2 := [_, _, _]) (M := L) (unhide hJ4) [0, 2, 1] rfl rfl (by decide)
end
end Go.Proofs.YtblbgalpkodibaaDoor
