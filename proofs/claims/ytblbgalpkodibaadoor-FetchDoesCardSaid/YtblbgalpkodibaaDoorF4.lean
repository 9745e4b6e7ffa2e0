/- Layer 20: Fail, Give. -/
import Derived.Test.YtblbgalpkodibaaDoorF3
namespace Go.Proofs.YtblbgalpkodibaaDoor
open Go.RowKit
theorem run_cv32 (n : Nat) (h : n < 65536) (w : World) : (convert 32 33 (.int .u16 (n : Nat))).run Tryd.prog w = .ok (.int .u32 (n : Nat)) w := by
  have h0 : (convert 32 33 (.int .u16 (n : Nat))).run Tryd.prog w = .ok (.int .u32 (IntKind.u32.wrap (n : Nat))) w := by kernel_rfl
  rw [h0, show IntKind.u32.wrap (n : Nat) = (n : Int) from by rw [IntKind.wrap_u32]; omega]
theorem run_cv64 (n : Nat) (h : n < 65536) (w : World) : (convert 32 22 (.int .u16 (n : Nat))).run Tryd.prog w = .ok (.int .u64 (n : Nat)) w := by
  have h0 : (convert 32 22 (.int .u16 (n : Nat))).run Tryd.prog w = .ok (.int .u64 (IntKind.u64.wrap (n : Nat))) w := by kernel_rfl
  rw [h0, show IntKind.u64.wrap (n : Nat) = (n : Int) from by rw [IntKind.wrap_u64]; omega]
section
variable {w0 w w' : World} {L : List HP} {b g : Nat} {F : Fr} {c : St}
set_option maxRecDepth 100000 in
set_option maxHeartbeats 4000000 in
theorem fail_f (h : Heap w0 w (HP.fr b g F :: L)) (cause : Int) (hu : 0 ≤ cause ∧ cause < 18446744073709551616) :
    Calls Tryd.prog 17 #[.pointer (some ⟨b, 0, none⟩), .int .u64 cause] w fun r w' => r = .returned (.bool (canF F)) ∧ Heap w0 w' (HP.fr b g (failF F cause) :: L) := by
  obtain ⟨i0, hi0, hz0, hz1, hz2⟩ := info_parts info38
  obtain ⟨A, cap, hC, hh⟩ := h.fc
  have hI := hC.I
  have hab := atF_bd hI
  obtain ⟨av, hav⟩ : ∃ av, (bif canF F then atF F else 0) = av := ⟨_, rfl⟩
  obtain ⟨cv, hcv⟩ : ∃ cv, canF F = cv := ⟨_, rfl⟩
  have hlen := hI.len
  have hcall := hide (want_c hC)
  rw [hav, hcv] at hcall
  rw [hcv] at hav
  rw [hcv]
  unfold FB at hh
  obtain ⟨F2, hF2⟩ : ∃ F2, failF F cause = F2 := ⟨_, rfl⟩
  rw [hF2]
  have HF2 := hide hF2
  clear hF2
  go_enter Tryd.func17, Tryd.ntmps17
  go_wp2_with fail
  refine (unhide hcall).mono ?_
  rintro r w1 ⟨rfl, hg1⟩
  have hh := hh.grown hg1
  have H0 := hide (h.grown hg1)
  clear hcall h hC
  cases cv with
  | false =>
    have Hcv := hide hcv
    clear hcv hav
    go_wp2
    go_ret
    exact ⟨rfl, by rw [← unhide HF2, show failF F cause = F from by unfold failF; rw [unhide Hcv]; rfl]; exact unhide H0⟩
  | true =>
    have hlt := can_len hcv
    simp only [cond_true] at hav
    have hfinE := hide <| show failF F cause = trapF F 0 0 cause av by unfold failF; rw [hcv, hav]; rfl
    have hfinI := hide (hI.trap hcv z32 z4 hu (by rw [← hav]; exact hab : 0 ≤ av ∧ av < 18446744073709551616))
    clear hcv hav H0
    have hJ2 : Heap w0 w1 (HP.slw (.slice A F.q.length cap) 13 F.q.length (itsC F.q) :: HP.blk b (frv g F (.slice A F.q.length cap)).toArray 72 :: L) := hh.f2
    clear hh
    have Hsp_ : Hid (∀ g_, spare (.slice A F.q.length cap) = some g_ → g_ < w1.heap.size) := hide fun g_ hg_ => hJ2.slw.blk_lt (spare_blk hg_)
    go_wp2_with fail
    refine wp_region_XE 13 (fun fl_ w_ => (Heap w0 w_ (HP.blk b (frv g F (.slice A F.q.length cap)).toArray 72 :: L)) ∧ w1.heap.size ≤ w_.heap.size ∧ (fl_ = false → Heap w0 w_ (HP.slw (.slice A F.q.length cap) 13 F.q.length (itsC F.q) :: HP.blk b (frv g F (.slice A F.q.length cap)).toArray 72 :: L))) (fun i_ x_ y_ => match i_ with | 13 => x_.grownBy y_ (spare (.slice A F.q.length cap)) | _ => (∀ L_, Heap w0 x_ L_ → Heap w0 y_ L_) ∧ GN x_ y_) (fun k_ v_ w_ => match k_ with
        | 0 => v_ = .pointer (some ⟨b, 0, none⟩)
        | 1 => v_ = .pointer (some ⟨b, 0, none⟩)
        | 2 => v_ = .pointer (some ⟨b, 0, none⟩)
        | 3 => v_ = .pointer (some ⟨b, 5, none⟩)
        | 4 => v_ = .slice A F.q.length cap
        | 5 => v_ = .pointer (some ⟨b, 0, none⟩)
        | 6 => v_ = .pointer (some ⟨b, 0, none⟩)
        | 7 => v_ = .pointer (some ⟨b, 1, none⟩)
        | 8 => v_ = .int .u64 F.at_
        | 9 => v_ = .int .u64 cause
        | 10 => v_ = .int .u64 av
        | 11 => v_ = .agg #[.int .u64 F.at_, .int .u32 0, .int .u32 0, .int .i64 0, .int .u64 cause, .int .u64 av, .int .u64 0, .int .u64 0, .int .u64 0, .int .u64 0, .int .u64 0, .int .i64 0, .int .u64 0]
        | 12 => ∃ kk : Nat, v_ = .slice (some ⟨kk, 0, none⟩) 1 1 ∧ w1.heap.size ≤ kk ∧ w_.heap[kk]? = some (.cells #[.int .u64 F.at_, .int .u32 0, .int .u32 0, .int .i64 0, .int .u64 cause, .int .u64 av, .int .u64 0, .int .u64 0, .int .u64 0, .int .u64 0, .int .u64 0, .int .i64 0, .int .u64 0] 38 (0, 0))
        | 13 => Heap w0 w_ (HP.slw v_ 13 (F.q.length + 1) (itsC F.q ++ [.int .u64 F.at_, .int .u32 0, .int .u32 0, .int .i64 0, .int .u64 cause, .int .u64 av, .int .u64 0, .int .u64 0, .int .u64 0, .int .u64 0, .int .u64 0, .int .i64 0, .int .u64 0]) :: HP.blk b (frv g F (.slice A F.q.length cap)).toArray 72 :: L)
        | 14 => v_ = .pointer (some ⟨b, 0, none⟩)
        | _ => v_ = .pointer (some ⟨b, 5, none⟩)) fol (by kernel_rfl) ?_ ?_ (by decide) (n := 16) rfl rfl rfl (by kernel_rfl) ?_ ?_
    · exact ⟨hJ2.tail.drew, Nat.le_refl _, fun _ => hJ2.drew⟩
    · intro i_ k_ v_ w_ w2_ hne h1 hg
      split at h1
      all_goals first
        | exact h1
        | (obtain ⟨kk, e_, q_, r_⟩ := h1; split at hg; exact ⟨kk, e_, q_, (World.grownBy.block hg kk (lt_of_heap' r_) (fun c_ => by have := unhide Hsp_ _ c_.symm; omega)).trans r_⟩; exact ⟨kk, e_, q_, hg.2.heap r_⟩)
        | (split at hg; exact absurd rfl hne; exact hg.1 _ h1)
    · intro vals
      show wpX _ _ _ _ _ _ _ 0 (_ :: _) _
      refine wpX_cons (xval (.pointer (some ⟨b, 0, none⟩)) (fun _ => ⟨fun _ h_ => h_, GN.refl _⟩) (by decide) fun fl_ w_ hJ hd => ?_) ?_
      · exact ⟨by kernel_rfl, by kernel_rfl, rfl⟩
      refine wpX_cons (xval (.pointer (some ⟨b, 0, none⟩)) (fun _ => ⟨fun _ h_ => h_, GN.refl _⟩) (by decide) fun fl_ w_ hJ hd => ?_) ?_
      · exact ⟨by kernel_rfl, by kernel_rfl, rfl⟩
      refine wpX_cons (xval (.pointer (some ⟨b, 0, none⟩)) (fun _ => ⟨fun _ h_ => h_, GN.refl _⟩) (by decide) fun fl_ w_ hJ hd => ?_) ?_
      · have e1 : vals 1 = _ := hd 1 (by decide) (by kernel_rfl)
        rw [e1]
        exact ⟨by kernel_rfl, by kernel_rfl, rfl⟩
      refine wpX_cons (xval (.pointer (some ⟨b, 5, none⟩)) (fun _ => ⟨fun _ h_ => h_, GN.refl _⟩) (by decide) fun fl_ w_ hJ hd => ?_) ?_
      · have e2 : vals 2 = _ := hd 2 (by decide) (by kernel_rfl)
        rw [e2]
        exact ⟨by kernel_rfl, by kernel_rfl, rfl⟩
      refine wpX_cons (xop (Instr.loadAt 45 (.pointer (some ⟨b, 5, none⟩))) (.slice A F.q.length cap) (fun _ => ⟨fun _ h_ => h_, GN.refl _⟩) (by decide) fun fl_ w_ hJ hd => ?_) ?_
      · have e3 : vals 3 = _ := hd 3 (by decide) (by kernel_rfl)
        rw [e3]
        exact ⟨by kernel_rfl, by kernel_rfl, run_load1 (by kernel_rfl) (cell_blk (Heap.heap hJ.1) 5).1, rfl⟩
      refine wpX_cons (xval (.pointer (some ⟨b, 0, none⟩)) (fun _ => ⟨fun _ h_ => h_, GN.refl _⟩) (by decide) fun fl_ w_ hJ hd => ?_) ?_
      · exact ⟨by kernel_rfl, by kernel_rfl, rfl⟩
      refine wpX_cons (xval (.pointer (some ⟨b, 0, none⟩)) (fun _ => ⟨fun _ h_ => h_, GN.refl _⟩) (by decide) fun fl_ w_ hJ hd => ?_) ?_
      · have e5 : vals 5 = _ := hd 5 (by decide) (by kernel_rfl)
        rw [e5]
        exact ⟨by kernel_rfl, by kernel_rfl, rfl⟩
      refine wpX_cons (xval (.pointer (some ⟨b, 1, none⟩)) (fun _ => ⟨fun _ h_ => h_, GN.refl _⟩) (by decide) fun fl_ w_ hJ hd => ?_) ?_
      · have e6 : vals 6 = _ := hd 6 (by decide) (by kernel_rfl)
        rw [e6]
        exact ⟨by kernel_rfl, by kernel_rfl, rfl⟩
      refine wpX_cons (xop (Instr.loadAt 22 (.pointer (some ⟨b, 1, none⟩))) (.int .u64 F.at_) (fun _ => ⟨fun _ h_ => h_, GN.refl _⟩) (by decide) fun fl_ w_ hJ hd => ?_) ?_
      · have e7 : vals 7 = _ := hd 7 (by decide) (by kernel_rfl)
        rw [e7]
        exact ⟨by kernel_rfl, by kernel_rfl, run_load1 (by kernel_rfl) (cell_blk (Heap.heap hJ.1) 1).1, rfl⟩
      refine wpX_cons (xval (.int .u64 cause) (fun _ => ⟨fun _ h_ => h_, GN.refl _⟩) (by decide) fun fl_ w_ hJ hd => ?_) ?_
      · exact ⟨by kernel_rfl, by kernel_rfl, rfl⟩
      refine wpX_cons (xval (.int .u64 av) (fun _ => ⟨fun _ h_ => h_, GN.refl _⟩) (by decide) fun fl_ w_ hJ hd => ?_) ?_
      · exact ⟨by kernel_rfl, by kernel_rfl, rfl⟩
      refine wpX_cons (xval (.agg #[.int .u64 F.at_, .int .u32 0, .int .u32 0, .int .i64 0, .int .u64 cause, .int .u64 av, .int .u64 0, .int .u64 0, .int .u64 0, .int .u64 0, .int .u64 0, .int .i64 0, .int .u64 0]) (fun _ => ⟨fun _ h_ => h_, GN.refl _⟩) (by decide) fun fl_ w_ hJ hd => ?_) ?_
      · have e8 : vals 8 = _ := hd 8 (by decide) (by kernel_rfl)
        have e9 : vals 9 = _ := hd 9 (by decide) (by kernel_rfl)
        have e10 : vals 10 = _ := hd 10 (by decide) (by kernel_rfl)
        rw [e8, e9, e10]
        exact ⟨by kernel_rfl, by kernel_rfl, rfl⟩
      refine wpX_cons (xmake (by decide) fun fl_ w_ hJ hd => ?_) ?_
      · have e11 : vals 11 = _ := hd 11 (by decide) (by kernel_rfl)
        rw [e11]
        exact ⟨by kernel_rfl, _, w_.alloc (.cells #[.int .u64 F.at_, .int .u32 0, .int .u32 0, .int .i64 0, .int .u64 cause, .int .u64 av, .int .u64 0, .int .u64 0, .int .u64 0, .int .u64 0, .int .u64 0, .int .i64 0, .int .u64 0] 38), (by kernel_rfl : _ = Result.ok (Next.value (.slice (some ⟨w_.heap.size, 0, none⟩) 1 1)) _), ⟨hJ.1.alloc _, Nat.le_trans hJ.2.1 (by simp), fun h_ => (hJ.2.2 h_).alloc _⟩, ⟨fun _ h_ => h_.alloc _, grown_b1 _ _⟩, w_.heap.size, rfl, hJ.2.1, heap_new' _ _⟩
      refine wpX_cons (xevent rfl fun w_ hJ hd => ?_) ?_
      · have e4 : vals 4 = _ := hd 4 (by decide) (by kernel_rfl)
        have e12 : ∃ kk : Nat, (vals 12) = .slice (some ⟨kk, 0, none⟩) 1 1 ∧ w1.heap.size ≤ kk ∧ w_.heap[kk]? = some (.cells #[.int .u64 F.at_, .int .u32 0, .int .u32 0, .int .i64 0, .int .u64 cause, .int .u64 av, .int .u64 0, .int .u64 0, .int .u64 0, .int .u64 0, .int .u64 0, .int .i64 0, .int .u64 0] 38 (0, 0)) := hd 12 (by decide) (by kernel_rfl)
        rw [e4]
        obtain ⟨kk, e_, q_, r_⟩ := e12
        rw [e_]
        have hB_ := hJ.2.2 rfl
        obtain ⟨v', w', hr_, hsl_, hgr_, hblk_, _⟩ := run_append_sl (P := Tryd.prog) w_ 45 45 38 i0 _ 13 96 Tryd.underlying45 hi0 hz0 hz1 hz2 rfl hB_.slw (sl_blk (n := 1) (sz := 13) (xs := [.int .u64 F.at_, .int .u32 0, .int .u32 0, .int .i64 0, .int .u64 cause, .int .u64 av, .int .u64 0, .int .u64 0, .int .u64 0, .int .u64 0, .int .u64 0, .int .i64 0, .int .u64 0]) r_ rfl) (itl_cell ⟨F.at_, 0, 0, 0, cause, av, 0, Z0⟩) (by omega) (by omega)
        have hA_ := hB_.appendw hsl_ hgr_ hblk_
        exact ⟨by kernel_rfl, v', w', Eq.trans (b := Sem.run Tryd.prog (do let r ← Builtin.append_ #[45, 45] 45 #[.slice A F.q.length cap, .slice (some ⟨kk, 0, none⟩) 1 1]; pure (Next.value r)) w_) (by kernel_rfl) (run_val hr_), ⟨hA_.tail, Nat.le_trans hJ.2.1 hgr_.size, fun h_ => by cases h_⟩, hgr_, hA_⟩
      refine wpX_cons (xval (.pointer (some ⟨b, 0, none⟩)) (fun _ => ⟨fun _ h_ => h_, GN.refl _⟩) (by decide) fun fl_ w_ hJ hd => ?_) ?_
      · have e0 : vals 0 = _ := hd 0 (by decide) (by kernel_rfl)
        rw [e0]
        exact ⟨by kernel_rfl, by kernel_rfl, rfl⟩
      refine wpX_cons (xval (.pointer (some ⟨b, 5, none⟩)) (fun _ => ⟨fun _ h_ => h_, GN.refl _⟩) (by decide) fun fl_ w_ hJ hd => ?_) wpX_nil
      · have e14 : vals 14 = _ := hd 14 (by decide) (by kernel_rfl)
        rw [e14]
        exact ⟨by kernel_rfl, by kernel_rfl, rfl⟩
    intro vals w_ hJ hf
    have e0 : vals 0 = _ := hf 0 (by decide)
    have e1 : vals 1 = _ := hf 1 (by decide)
    have e2 : vals 2 = _ := hf 2 (by decide)
    have e3 : vals 3 = _ := hf 3 (by decide)
    have e4 : vals 4 = _ := hf 4 (by decide)
    have e5 : vals 5 = _ := hf 5 (by decide)
    have e6 : vals 6 = _ := hf 6 (by decide)
    have e7 : vals 7 = _ := hf 7 (by decide)
    have e8 : vals 8 = _ := hf 8 (by decide)
    have e9 : vals 9 = _ := hf 9 (by decide)
    have e10 : vals 10 = _ := hf 10 (by decide)
    have e11 : vals 11 = _ := hf 11 (by decide)
    have e14 : vals 14 = _ := hf 14 (by decide)
    have e15 : vals 15 = _ := hf 15 (by decide)
    have e13 : Heap w0 w_ (HP.slw (vals 13) 13 (F.q.length + 1) (itsC F.q ++ [.int .u64 F.at_, .int .u32 0, .int .u32 0, .int .i64 0, .int .u64 cause, .int .u64 av, .int .u64 0, .int .u64 0, .int .u64 0, .int .u64 0, .int .u64 0, .int .i64 0, .int .u64 0]) :: HP.blk b (frv g F (.slice A F.q.length cap)).toArray 72 :: L) := hf 13 (by decide)
    show Oper.wp _ _ (fillG vals 0 (_ :: _ :: _ :: _ :: _ :: _ :: _ :: _ :: _ :: _ :: _ :: _ :: _ :: _ :: _ :: _ :: []) _) _ _ _
    simp only [fillG, Nat.zero_add, Nat.reduceAdd, e0, e1, e2, e3, e4, e5, e6, e7, e8, e9, e10, e11, e14, e15, Act.put, List.setIfInBounds_toArray, List.set_cons_succ, List.set_cons_zero]
    clear e0 e1 e2 e3 e4 e5 e6 e7 e8 e9 e10 e11 e14 e15 hf
    generalize vals 12 = v12 at *
    generalize vals 13 = v13 at *
    obtain ⟨A2, cap2, rfl, _⟩ := (Heap.slw e13).parts
    have b5 := cell_blk (Heap.heap (Heap.f2 e13)) 5
    show Oper.wp _ (Oper.mk none _ _ _ _ _) _ _ _ _
    refine wp_last_skip (w' := w_.setCell ⟨b, 5, none⟩ (.slice A2 (F.q.length + 1) cap2)) (m := Instr.storeAt 45 (.pointer (some ⟨b, 5, none⟩)) (.slice A2 (F.q.length + 1) cap2)) (by kernel_rfl) (run_store1 (by kernel_rfl) rfl rfl b5.1 b5.2) ?_
    show Exit.then _ _ Exit.normal (Act.put ⟨_, _⟩ none _) _
    simp only [Act.put]
    have hJ3 := (Heap.f2 e13).setl 5 (.slice A2 (F.q.length + 1) cap2)
    clear b5 e13 hJ hJ2 Hsp_
    generalize World.setCell w_ ⟨b, 5, none⟩ (.slice A2 (F.q.length + 1) cap2) = W3 at hJ3 ⊢
    obtain ⟨b4, b4f⟩ := (cell_blk (Heap.heap hJ3) 4)
    have b4 : W3.cell? ⟨b, 4, none⟩ = some (.bool F.stop) := b4
    have hbl := lt_of_heap' (Heap.heap hJ3)
    have hJ4 := hide (hJ3.setl 4 (.bool true))
    clear hJ3
    go_wp2
    go_ret
    refine ⟨rfl, ?_⟩
    rw [← unhide HF2, unhide hfinE]
    have hI2 := unhide hfinI
    refine Heap.fr.2 ⟨.slice A2 (F.q.length + 1) cap2, hI2, ?_⟩
    unfold FB trapF
    rw [itsC_snoc, List.length_append]
    exact unhide hJ4
set_option maxRecDepth 100000 in
set_option maxHeartbeats 4000000 in
theorem give_f (hT : Tab w) (h : Heap w0 w (HP.fr b g F :: HP.gg g c :: L)) (n : Nat) (hn : n < 65536) :
    Calls Tryd.prog 12 #[.pointer (some ⟨b, 0, none⟩), .int .u16 (n : Nat)] w fun r w' => r = .returned (.bool (canF F)) ∧ Heap w0 w' (HP.fr b g (giveF F c n) :: HP.gg g (giveC F c n) :: L) := by
  obtain ⟨i0, hi0, hz0, hz1, hz2⟩ := info_parts info38
  obtain ⟨A, cap, hC, hh⟩ := h.fc
  have hI := hC.I
  obtain ⟨cv, hcv⟩ : ∃ cv, canF F = cv := ⟨_, rfl⟩
  have hlen := hI.len
  have hcall := hide (want_c hC)
  rw [hcv] at hcall
  rw [hcv]
  obtain ⟨av, hav⟩ : ∃ av, (bif cv then atF F else 0) = av := ⟨_, rfl⟩
  rw [hav] at hcall
  clear hav
  obtain ⟨F2, hF2⟩ : ∃ F2, giveF F c n = F2 := ⟨_, rfl⟩
  obtain ⟨c2, hc2⟩ : ∃ c2, giveC F c n = c2 := ⟨_, rfl⟩
  rw [hF2, hc2]
  have HF2 := hide hF2
  have HC2 := hide hc2
  clear hF2 hc2
  go_enter Tryd.func12, Tryd.ntmps12
  go_wp2_with fail
  refine (unhide hcall).mono ?_
  rintro r w1 ⟨rfl, hg1⟩
  have hh := hh.grown hg1
  have H1 := hide (h.grown hg1)
  have hT1 := hide (hT.gn hg1)
  obtain ⟨d0, d1, d2, d3, d4, d5⟩ := (hC.gn hg1).cells
  have hbl := (hC.gn hg1).lt
  have d2f := (hC.gn hg1).frozen 2
  have d3f := (hC.gn hg1).frozen 3
  clear hcall h hC hT hg1 d0 d1 d4 d5
  have HI := hide hI
  cases cv with
  | false =>
    have Hcv := hide hcv
    clear hcv
    go_wp2
    go_ret
    exact ⟨rfl, by rw [← unhide HF2, ← unhide HC2, show giveF F c n = F from by unfold giveF; rw [unhide Hcv]; rfl, show giveC F c n = c from by unfold giveC; rw [unhide Hcv]; rfl]; exact unhide H1⟩
  | true =>
    have hlt := can_len hcv
    have Hcv := hide hcv
    cases hs : F.some with
    | true =>
      have Hs := hide hs
      rw [hs] at d3
      obtain ⟨f, hf⟩ : ∃ f : Nat, F.first = f := ⟨F.first.toNat, by have := hI.first; omega⟩
      have hfb := hI.first
      rw [hf] at d2 hfb
      have hfb2 : f < 65536 := by omega
      have Hf := hide hf
      have e1 : (n : Int) * 65536 % 4294967296 = ((n * 65536 : Nat) : Int) := by omega
      have e2 : Go.bits .or .u32 ((n : Int) * 65536) (f : Int) = ((n * 65536 + f : Nat) : Int) := by
        rw [show (n : Int) * 65536 = ((n * 65536 : Nat) : Int) by omega, ← or32_cast]
        unfold or32
        rw [nat_or_parts 16 (n * 65536) f (by omega) (by omega)]
        omega
      have hq : ((n * 65536 + f : Nat) : Int) < 4294967296 := by omega
      clear hs hcv hf hI hh
      go_wp2_with fail
      refine (whole_f (unhide H1) (unhide Hcv) (n * 65536 + f) (n * 65536 + f) 4 (by omega) (by omega) (by omega)).mono ?_
      rintro r w2 ⟨rfl, hw2⟩
      have HW := hide hw2
      clear hw2
      go_wp2
      go_ret
      refine ⟨rfl, ?_⟩
      rw [← unhide HF2, ← unhide HC2, show giveF F c n = wholeF F c (n * 65536 + f) (n * 65536 + f) 4 from by unfold giveF; rw [unhide Hcv, unhide Hs, unhide Hf]; rfl, show giveC F c n = nSt c F.at_ 4 from by unfold giveC; rw [unhide Hcv, unhide Hs]; rfl]
      exact unhide HW
    | false =>
      have Hs := hide hs
      rw [hs] at d3
      clear hs hcv
      obtain ⟨nv, hnv⟩ : ∃ s, (and16 n 3 != 3) = s := ⟨_, rfl⟩
      have hsh := hide (short_any n w1)
      rw [hnv] at hsh
      go_wp2_with fail
      refine (unhide hsh).mono ?_
      rintro r w2 ⟨rfl, hg2⟩
      clear hsh
      have hh := hh.grown hg2
      have H1 := hide ((unhide H1).grown hg2)
      have hT1 := hide ((unhide hT1).gn hg2)
      have d2 := cell_GN hg2 d2
      have d3 := cell_GN hg2 d3
      have hbl := lt_of_heap' (Heap.heap hh)
      have d2f := (cell_blk (Heap.heap hh) 2).2
      have d3f := (cell_blk (Heap.heap hh) 3).2
      clear hg2
      cases nv with
      | false =>
        have Hnv := hide hnv
        have hfin := hide ((hh.setl 2 (.int .u16 (n : Nat))).setl 3 (.bool true))
        clear hh hnv hI
        go_wp2
        go_ret
        refine ⟨rfl, ?_⟩
        have h3 : and16 n 3 = 3 := by simpa using unhide Hnv
        have e : giveF F c n = { F with first := n, some := true } := by unfold giveF; rw [unhide Hcv, unhide Hs, h3]; rfl
        have hI2 := (unhide HI).give (Heap.gg.1 (unhide H1).tail).1 hn
        rw [e] at hI2
        rw [← unhide HF2, ← unhide HC2, e, show giveC F c n = c from by unfold giveC; rw [unhide Hcv, unhide Hs, h3]; rfl]
        exact Heap.fr.2 ⟨_, hI2, unhide hfin⟩
      | true =>
        have Hnv := hide hnv
        obtain ⟨ev, hev⟩ : ∃ e, exN n = e := ⟨_, rfl⟩
        have heb := exN_bd n
        rw [hev] at heb
        have Hev := hide hev
        obtain ⟨zv, hzv⟩ : ∃ z, (ev != 0) = z := ⟨_, rfl⟩
        have hex := hide (expand_any (unhide hT1) n hn w2 (GN.refl w2))
        rw [hev, hzv] at hex
        clear hnv hev hT1
        go_wp2_with fail
        refine (unhide hex).mono ?_
        rintro r w3 ⟨rfl, hg3⟩
        clear hex
        have hh := hh.grown hg3
        have H1 := hide ((unhide H1).grown hg3)
        have hbl := lt_of_heap' (Heap.heap hh)
        have Hzv := hide hzv
        clear hzv d2 d3 d2f d3f hg3
        cases zv with
        | true =>
          clear hh hI
          go_wp2_with fail
          refine (whole_f (unhide H1) (unhide Hcv) n ev 2 (by omega) (by omega) (by omega)).mono ?_
          rintro r w4 ⟨rfl, hw4⟩
          have HW := hide hw4
          clear hw4
          go_wp2
          go_ret
          refine ⟨rfl, ?_⟩
          have h3 : (and16 n 3 == 3) = false := by simpa using unhide Hnv
          have h0 : (exN n == 0) = false := by rw [unhide Hev]; simpa using unhide Hzv
          rw [← unhide HF2, ← unhide HC2, show giveF F c n = wholeF F c n (exN n) 2 from by unfold giveF; rw [unhide Hcv, unhide Hs, h3, h0]; rfl, show giveC F c n = nSt c F.at_ 2 from by unfold giveC; rw [unhide Hcv, unhide Hs, h3, h0]; rfl, unhide Hev]
          exact unhide HW
        | false =>
          have hfinE := hide <| show giveF F c n = trapF F n 2 2 n by
            have h3 : (and16 n 3 == 3) = false := by simpa using unhide Hnv
            have h0 : (exN n == 0) = true := by rw [unhide Hev]; simpa using unhide Hzv
            unfold giveF; rw [unhide Hcv, unhide Hs, h3, h0]; rfl
          have hfinC := hide <| show giveC F c n = c by
            have h3 : (and16 n 3 == 3) = false := by simpa using unhide Hnv
            have h0 : (exN n == 0) = true := by rw [unhide Hev]; simpa using unhide Hzv
            unfold giveC; rw [unhide Hcv, unhide Hs, h3, h0]; rfl
          have hfinI := hide (hI.trap (unhide Hcv) (bits := n) (size := 2) (cause := 2) (tval := n) (by omega) (by omega) (by omega) (by omega))
          have hJ2 : Heap w0 w3 (HP.slw (.slice A F.q.length cap) 13 F.q.length (itsC F.q) :: HP.blk b (frv g F (.slice A F.q.length cap)).toArray 72 :: HP.gg g c :: L) := hh.f2
          clear hh H1 hI
          have Hsp_ : Hid (∀ g_, spare (.slice A F.q.length cap) = some g_ → g_ < w3.heap.size) := hide fun g_ hg_ => hJ2.slw.blk_lt (spare_blk hg_)
          go_wp2_with fail
          refine wp_region_XE 15 (fun fl_ w_ => (Heap w0 w_ (HP.blk b (frv g F (.slice A F.q.length cap)).toArray 72 :: HP.gg g c :: L)) ∧ w3.heap.size ≤ w_.heap.size ∧ (fl_ = false → Heap w0 w_ (HP.slw (.slice A F.q.length cap) 13 F.q.length (itsC F.q) :: HP.blk b (frv g F (.slice A F.q.length cap)).toArray 72 :: HP.gg g c :: L))) (fun i_ x_ y_ => match i_ with | 15 => x_.grownBy y_ (spare (.slice A F.q.length cap)) | _ => (∀ L_, Heap w0 x_ L_ → Heap w0 y_ L_) ∧ GN x_ y_) (fun k_ v_ w_ => match k_ with
              | 0 => v_ = .pointer (some ⟨b, 0, none⟩)
              | 1 => v_ = .pointer (some ⟨b, 0, none⟩)
              | 2 => v_ = .pointer (some ⟨b, 0, none⟩)
              | 3 => v_ = .pointer (some ⟨b, 5, none⟩)
              | 4 => v_ = .slice A F.q.length cap
              | 5 => v_ = .pointer (some ⟨b, 0, none⟩)
              | 6 => v_ = .pointer (some ⟨b, 0, none⟩)
              | 7 => v_ = .pointer (some ⟨b, 1, none⟩)
              | 8 => v_ = .int .u64 F.at_
              | 9 => v_ = .int .u16 (n : Nat)
              | 10 => v_ = .int .u32 (n : Nat)
              | 11 => v_ = .int .u16 (n : Nat)
              | 12 => v_ = .int .u64 (n : Nat)
              | 13 => v_ = .agg #[.int .u64 F.at_, .int .u32 (n : Nat), .int .u32 0, .int .i64 2, .int .u64 2, .int .u64 (n : Nat), .int .u64 0, .int .u64 0, .int .u64 0, .int .u64 0, .int .u64 0, .int .i64 0, .int .u64 0]
              | 14 => ∃ kk : Nat, v_ = .slice (some ⟨kk, 0, none⟩) 1 1 ∧ w3.heap.size ≤ kk ∧ w_.heap[kk]? = some (.cells #[.int .u64 F.at_, .int .u32 (n : Nat), .int .u32 0, .int .i64 2, .int .u64 2, .int .u64 (n : Nat), .int .u64 0, .int .u64 0, .int .u64 0, .int .u64 0, .int .u64 0, .int .i64 0, .int .u64 0] 38 (0, 0))
              | 15 => Heap w0 w_ (HP.slw v_ 13 (F.q.length + 1) (itsC F.q ++ [.int .u64 F.at_, .int .u32 (n : Nat), .int .u32 0, .int .i64 2, .int .u64 2, .int .u64 (n : Nat), .int .u64 0, .int .u64 0, .int .u64 0, .int .u64 0, .int .u64 0, .int .i64 0, .int .u64 0]) :: HP.blk b (frv g F (.slice A F.q.length cap)).toArray 72 :: HP.gg g c :: L)
              | 16 => v_ = .pointer (some ⟨b, 0, none⟩)
              | _ => v_ = .pointer (some ⟨b, 5, none⟩)) fol (by kernel_rfl) ?_ ?_ (by decide) (n := 18) rfl rfl rfl (by kernel_rfl) ?_ ?_
          · exact ⟨hJ2.tail.drew, Nat.le_refl _, fun _ => hJ2.drew⟩
          · intro i_ k_ v_ w_ w2_ hne h1 hg
            split at h1
            all_goals first
              | exact h1
              | (obtain ⟨kk, e_, q_, r_⟩ := h1; split at hg; exact ⟨kk, e_, q_, (World.grownBy.block hg kk (lt_of_heap' r_) (fun c_ => by have := unhide Hsp_ _ c_.symm; omega)).trans r_⟩; exact ⟨kk, e_, q_, hg.2.heap r_⟩)
              | (split at hg; exact absurd rfl hne; exact hg.1 _ h1)
          · intro vals
            show wpX _ _ _ _ _ _ _ 0 (_ :: _) _
            refine wpX_cons (xval (.pointer (some ⟨b, 0, none⟩)) (fun _ => ⟨fun _ h_ => h_, GN.refl _⟩) (by decide) fun fl_ w_ hJ hd => ?_) ?_
            · exact ⟨by kernel_rfl, by kernel_rfl, rfl⟩
            refine wpX_cons (xval (.pointer (some ⟨b, 0, none⟩)) (fun _ => ⟨fun _ h_ => h_, GN.refl _⟩) (by decide) fun fl_ w_ hJ hd => ?_) ?_
            · exact ⟨by kernel_rfl, by kernel_rfl, rfl⟩
            refine wpX_cons (xval (.pointer (some ⟨b, 0, none⟩)) (fun _ => ⟨fun _ h_ => h_, GN.refl _⟩) (by decide) fun fl_ w_ hJ hd => ?_) ?_
            · have e1 : vals 1 = _ := hd 1 (by decide) (by kernel_rfl)
              rw [e1]
              exact ⟨by kernel_rfl, by kernel_rfl, rfl⟩
            refine wpX_cons (xval (.pointer (some ⟨b, 5, none⟩)) (fun _ => ⟨fun _ h_ => h_, GN.refl _⟩) (by decide) fun fl_ w_ hJ hd => ?_) ?_
            · have e2 : vals 2 = _ := hd 2 (by decide) (by kernel_rfl)
              rw [e2]
              exact ⟨by kernel_rfl, by kernel_rfl, rfl⟩
            refine wpX_cons (xop (Instr.loadAt 45 (.pointer (some ⟨b, 5, none⟩))) (.slice A F.q.length cap) (fun _ => ⟨fun _ h_ => h_, GN.refl _⟩) (by decide) fun fl_ w_ hJ hd => ?_) ?_
            · have e3 : vals 3 = _ := hd 3 (by decide) (by kernel_rfl)
              rw [e3]
              exact ⟨by kernel_rfl, by kernel_rfl, run_load1 (by kernel_rfl) (cell_blk (Heap.heap hJ.1) 5).1, rfl⟩
            refine wpX_cons (xval (.pointer (some ⟨b, 0, none⟩)) (fun _ => ⟨fun _ h_ => h_, GN.refl _⟩) (by decide) fun fl_ w_ hJ hd => ?_) ?_
            · exact ⟨by kernel_rfl, by kernel_rfl, rfl⟩
            refine wpX_cons (xval (.pointer (some ⟨b, 0, none⟩)) (fun _ => ⟨fun _ h_ => h_, GN.refl _⟩) (by decide) fun fl_ w_ hJ hd => ?_) ?_
            · have e5 : vals 5 = _ := hd 5 (by decide) (by kernel_rfl)
              rw [e5]
              exact ⟨by kernel_rfl, by kernel_rfl, rfl⟩
            refine wpX_cons (xval (.pointer (some ⟨b, 1, none⟩)) (fun _ => ⟨fun _ h_ => h_, GN.refl _⟩) (by decide) fun fl_ w_ hJ hd => ?_) ?_
            · have e6 : vals 6 = _ := hd 6 (by decide) (by kernel_rfl)
              rw [e6]
              exact ⟨by kernel_rfl, by kernel_rfl, rfl⟩
            refine wpX_cons (xop (Instr.loadAt 22 (.pointer (some ⟨b, 1, none⟩))) (.int .u64 F.at_) (fun _ => ⟨fun _ h_ => h_, GN.refl _⟩) (by decide) fun fl_ w_ hJ hd => ?_) ?_
            · have e7 : vals 7 = _ := hd 7 (by decide) (by kernel_rfl)
              rw [e7]
              exact ⟨by kernel_rfl, by kernel_rfl, run_load1 (by kernel_rfl) (cell_blk (Heap.heap hJ.1) 1).1, rfl⟩
            refine wpX_cons (xval (.int .u16 (n : Nat)) (fun _ => ⟨fun _ h_ => h_, GN.refl _⟩) (by decide) fun fl_ w_ hJ hd => ?_) ?_
            · exact ⟨by kernel_rfl, by kernel_rfl, rfl⟩
            refine wpX_cons (xop (convert 32 33 (.int .u16 (n : Nat))) (.int .u32 (n : Nat)) (fun _ => ⟨fun _ h_ => h_, GN.refl _⟩) (by decide) fun fl_ w_ hJ hd => ?_) ?_
            · have e9 : vals 9 = _ := hd 9 (by decide) (by kernel_rfl)
              rw [e9]
              exact ⟨by kernel_rfl, by kernel_rfl, run_cv32 n hn w_, rfl⟩
            refine wpX_cons (xval (.int .u16 (n : Nat)) (fun _ => ⟨fun _ h_ => h_, GN.refl _⟩) (by decide) fun fl_ w_ hJ hd => ?_) ?_
            · exact ⟨by kernel_rfl, by kernel_rfl, rfl⟩
            refine wpX_cons (xop (convert 32 22 (.int .u16 (n : Nat))) (.int .u64 (n : Nat)) (fun _ => ⟨fun _ h_ => h_, GN.refl _⟩) (by decide) fun fl_ w_ hJ hd => ?_) ?_
            · have e11 : vals 11 = _ := hd 11 (by decide) (by kernel_rfl)
              rw [e11]
              exact ⟨by kernel_rfl, by kernel_rfl, run_cv64 n hn w_, rfl⟩
            refine wpX_cons (xval (.agg #[.int .u64 F.at_, .int .u32 (n : Nat), .int .u32 0, .int .i64 2, .int .u64 2, .int .u64 (n : Nat), .int .u64 0, .int .u64 0, .int .u64 0, .int .u64 0, .int .u64 0, .int .i64 0, .int .u64 0]) (fun _ => ⟨fun _ h_ => h_, GN.refl _⟩) (by decide) fun fl_ w_ hJ hd => ?_) ?_
            · have e8 : vals 8 = _ := hd 8 (by decide) (by kernel_rfl)
              have e10 : vals 10 = _ := hd 10 (by decide) (by kernel_rfl)
              have e12 : vals 12 = _ := hd 12 (by decide) (by kernel_rfl)
              rw [e8, e10, e12]
              exact ⟨by kernel_rfl, by kernel_rfl, rfl⟩
            refine wpX_cons (xmake (by decide) fun fl_ w_ hJ hd => ?_) ?_
            · have e13 : vals 13 = _ := hd 13 (by decide) (by kernel_rfl)
              rw [e13]
              exact ⟨by kernel_rfl, _, w_.alloc (.cells #[.int .u64 F.at_, .int .u32 (n : Nat), .int .u32 0, .int .i64 2, .int .u64 2, .int .u64 (n : Nat), .int .u64 0, .int .u64 0, .int .u64 0, .int .u64 0, .int .u64 0, .int .i64 0, .int .u64 0] 38), (by kernel_rfl : _ = Result.ok (Next.value (.slice (some ⟨w_.heap.size, 0, none⟩) 1 1)) _), ⟨hJ.1.alloc _, Nat.le_trans hJ.2.1 (by simp), fun h_ => (hJ.2.2 h_).alloc _⟩, ⟨fun _ h_ => h_.alloc _, grown_b1 _ _⟩, w_.heap.size, rfl, hJ.2.1, heap_new' _ _⟩
            refine wpX_cons (xevent rfl fun w_ hJ hd => ?_) ?_
            · have e4 : vals 4 = _ := hd 4 (by decide) (by kernel_rfl)
              have e14 : ∃ kk : Nat, (vals 14) = .slice (some ⟨kk, 0, none⟩) 1 1 ∧ w3.heap.size ≤ kk ∧ w_.heap[kk]? = some (.cells #[.int .u64 F.at_, .int .u32 (n : Nat), .int .u32 0, .int .i64 2, .int .u64 2, .int .u64 (n : Nat), .int .u64 0, .int .u64 0, .int .u64 0, .int .u64 0, .int .u64 0, .int .i64 0, .int .u64 0] 38 (0, 0)) := hd 14 (by decide) (by kernel_rfl)
              rw [e4]
              obtain ⟨kk, e_, q_, r_⟩ := e14
              rw [e_]
              have hB_ := hJ.2.2 rfl
              obtain ⟨v', w', hr_, hsl_, hgr_, hblk_, _⟩ := run_append_sl (P := Tryd.prog) w_ 45 45 38 i0 _ 13 96 Tryd.underlying45 hi0 hz0 hz1 hz2 rfl hB_.slw (sl_blk (n := 1) (sz := 13) (xs := [.int .u64 F.at_, .int .u32 (n : Nat), .int .u32 0, .int .i64 2, .int .u64 2, .int .u64 (n : Nat), .int .u64 0, .int .u64 0, .int .u64 0, .int .u64 0, .int .u64 0, .int .i64 0, .int .u64 0]) r_ rfl) (itl_cell ⟨F.at_, n, 0, 2, 2, n, 0, Z0⟩) (by omega) (by omega)
              have hA_ := hB_.appendw hsl_ hgr_ hblk_
              exact ⟨by kernel_rfl, v', w', Eq.trans (b := Sem.run Tryd.prog (do let r ← Builtin.append_ #[45, 45] 45 #[.slice A F.q.length cap, .slice (some ⟨kk, 0, none⟩) 1 1]; pure (Next.value r)) w_) (by kernel_rfl) (run_val hr_), ⟨hA_.tail, Nat.le_trans hJ.2.1 hgr_.size, fun h_ => by cases h_⟩, hgr_, hA_⟩
            refine wpX_cons (xval (.pointer (some ⟨b, 0, none⟩)) (fun _ => ⟨fun _ h_ => h_, GN.refl _⟩) (by decide) fun fl_ w_ hJ hd => ?_) ?_
            · have e0 : vals 0 = _ := hd 0 (by decide) (by kernel_rfl)
              rw [e0]
              exact ⟨by kernel_rfl, by kernel_rfl, rfl⟩
            refine wpX_cons (xval (.pointer (some ⟨b, 5, none⟩)) (fun _ => ⟨fun _ h_ => h_, GN.refl _⟩) (by decide) fun fl_ w_ hJ hd => ?_) wpX_nil
            · have e16 : vals 16 = _ := hd 16 (by decide) (by kernel_rfl)
              rw [e16]
              exact ⟨by kernel_rfl, by kernel_rfl, rfl⟩
          intro vals w_ hJ hf
          have e0 : vals 0 = _ := hf 0 (by decide)
          have e1 : vals 1 = _ := hf 1 (by decide)
          have e2 : vals 2 = _ := hf 2 (by decide)
          have e3 : vals 3 = _ := hf 3 (by decide)
          have e4 : vals 4 = _ := hf 4 (by decide)
          have e5 : vals 5 = _ := hf 5 (by decide)
          have e6 : vals 6 = _ := hf 6 (by decide)
          have e7 : vals 7 = _ := hf 7 (by decide)
          have e8 : vals 8 = _ := hf 8 (by decide)
          have e9 : vals 9 = _ := hf 9 (by decide)
          have e10 : vals 10 = _ := hf 10 (by decide)
          have e11 : vals 11 = _ := hf 11 (by decide)
          have e12 : vals 12 = _ := hf 12 (by decide)
          have e13 : vals 13 = _ := hf 13 (by decide)
          have e16 : vals 16 = _ := hf 16 (by decide)
          have e17 : vals 17 = _ := hf 17 (by decide)
          have e15 : Heap w0 w_ (HP.slw (vals 15) 13 (F.q.length + 1) (itsC F.q ++ [.int .u64 F.at_, .int .u32 (n : Nat), .int .u32 0, .int .i64 2, .int .u64 2, .int .u64 (n : Nat), .int .u64 0, .int .u64 0, .int .u64 0, .int .u64 0, .int .u64 0, .int .i64 0, .int .u64 0]) :: HP.blk b (frv g F (.slice A F.q.length cap)).toArray 72 :: HP.gg g c :: L) := hf 15 (by decide)
          show Oper.wp _ _ (fillG vals 0 (_ :: _ :: _ :: _ :: _ :: _ :: _ :: _ :: _ :: _ :: _ :: _ :: _ :: _ :: _ :: _ :: _ :: _ :: []) _) _ _ _
          simp only [fillG, Nat.zero_add, Nat.reduceAdd, e0, e1, e2, e3, e4, e5, e6, e7, e8, e9, e10, e11, e12, e13, e16, e17, Act.put, List.setIfInBounds_toArray, List.set_cons_succ, List.set_cons_zero]
          clear e0 e1 e2 e3 e4 e5 e6 e7 e8 e9 e10 e11 e12 e13 e16 e17 hf
          generalize vals 14 = v14 at *
          generalize vals 15 = v15 at *
          obtain ⟨A2, cap2, rfl, _⟩ := (Heap.slw e15).parts
          have b5 := cell_blk (Heap.heap (Heap.f2 e15)) 5
          show Oper.wp _ (Oper.mk none _ _ _ _ _) _ _ _ _
          refine wp_last_skip (w' := w_.setCell ⟨b, 5, none⟩ (.slice A2 (F.q.length + 1) cap2)) (m := Instr.storeAt 45 (.pointer (some ⟨b, 5, none⟩)) (.slice A2 (F.q.length + 1) cap2)) (by kernel_rfl) (run_store1 (by kernel_rfl) rfl rfl b5.1 b5.2) ?_
          show Exit.then _ _ Exit.normal (Act.put ⟨_, _⟩ none _) _
          simp only [Act.put]
          have hJ3 := (Heap.f2 e15).setl 5 (.slice A2 (F.q.length + 1) cap2)
          clear b5 e15 hJ hJ2 Hsp_
          generalize World.setCell w_ ⟨b, 5, none⟩ (.slice A2 (F.q.length + 1) cap2) = W3 at hJ3 ⊢
          obtain ⟨b4, b4f⟩ := (cell_blk (Heap.heap hJ3) 4)
          have b4 : W3.cell? ⟨b, 4, none⟩ = some (.bool F.stop) := b4
          have hbl := lt_of_heap' (Heap.heap hJ3)
          have hJ4 := hide (hJ3.setl 4 (.bool true))
          clear hJ3
          go_wp2
          go_ret
          refine ⟨rfl, ?_⟩
          rw [← unhide HF2, ← unhide HC2, unhide hfinE, unhide hfinC]
          have hI2 := unhide hfinI
          refine Heap.fr.2 ⟨.slice A2 (F.q.length + 1) cap2, hI2, ?_⟩
          unfold FB trapF
          rw [itsC_snoc, List.length_append]
          exact unhide hJ4
end
end Go.Proofs.YtblbgalpkodibaaDoor
