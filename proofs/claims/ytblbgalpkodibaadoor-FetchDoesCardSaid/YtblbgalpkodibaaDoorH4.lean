/- Layer 20, the document's front: Give. -/
import Derived.Test.YtblbgalpkodibaaDoorH3
import Derived.Test.YtblbgalpkodibaaDoorN4
namespace Go.Proofs.YtblbgalpkodibaaDoor
open Go.RowKit
theorem run_shl0 (n : Nat) (h : n < 65536) (w : World) : (binOp .shl 33 (.int .u32 (n : Nat)) (.int .i64 0)).run Tryd.prog w = .ok (.int .u32 (n : Nat)) w := by
  have h0 : (binOp .shl 33 (.int .u32 (n : Nat)) (.int .i64 0)).run Tryd.prog w = .ok (.int .u32 (IntKind.u32.wrap ((n : Int) * 2 ^ 0))) w := by kernel_rfl
  rw [h0, show IntKind.u32.wrap ((n : Int) * 2 ^ 0) = (n : Int) from by rw [IntKind.wrap_u32]; omega]
theorem run_shl16 (n : Nat) (h : n < 65536) (w : World) : (binOp .shl 33 (.int .u32 (n : Nat)) (.int .i64 16)).run Tryd.prog w = .ok (.int .u32 ((n : Int) * 65536)) w := by
  have h0 : (binOp .shl 33 (.int .u32 (n : Nat)) (.int .i64 16)).run Tryd.prog w = .ok (.int .u32 (IntKind.u32.wrap ((n : Int) * 2 ^ 16))) w := by kernel_rfl
  rw [h0, show IntKind.u32.wrap ((n : Int) * 2 ^ 16) = (n : Int) * 65536 from by rw [IntKind.wrap_u32]; omega]
theorem run_add33 (x y : Int) (h : 0 ≤ x + y ∧ x + y < 4294967296) (w : World) : (binOp .add 33 (.int .u32 x) (.int .u32 y)).run Tryd.prog w = .ok (.int .u32 (x + y)) w := by
  have h0 : (binOp .add 33 (.int .u32 x) (.int .u32 y)).run Tryd.prog w = .ok (.int .u32 (IntKind.u32.wrap (x + y))) w := by kernel_rfl
  rw [h0, show IntKind.u32.wrap (x + y) = x + y from by rw [IntKind.wrap_u32]; omega]
theorem infoH : (Tryd.prog.info? 32).map (fun i => (i.zero, i.size, i.bytes)) = some (some (.int .u16 0), 1, 2) := by kernel_rfl
section
variable {w0 w w' : World} {L : List HP} {b g : Nat} {F : Fr} {c : St}
set_option maxRecDepth 100000 in
set_option maxHeartbeats 4000000 in
theorem giveR_one (hI : FI F) (hT : Tab w0) (h : Heap w0 w (HP.rf b g F :: HP.rg g c :: L)) (n : Nat) (hn : n < 65536) (hs : F.some = false) :
    Calls Tryd.prog 21 #[.pointer (some ⟨b, 0, none⟩), .int .u16 (n : Nat)] w fun r w' => r = .returned (.bool (canF F)) ∧ Heap w0 w' (HP.rf b g (giveF F c n) :: HP.rg g (giveC F c n) :: L) := by
  obtain ⟨i0, hi0, hz0, hz1, hz2⟩ := info_parts infoH
  obtain ⟨j0, hj0, hy0, hy1, hy2⟩ := info_parts info61
  have hcall := hide (wantR_f hI h)
  have H0 := hide h
  obtain ⟨cv, hcv⟩ : ∃ cv, canF F = cv := ⟨_, rfl⟩
  rw [hcv] at hcall
  rw [hcv]
  obtain ⟨F2, hF2⟩ : ∃ F2, giveF F c n = F2 := ⟨_, rfl⟩
  obtain ⟨c2, hc2⟩ : ∃ c2, giveC F c n = c2 := ⟨_, rfl⟩
  rw [hF2, hc2]
  have HF2 := hide hF2
  have Hc2 := hide hc2
  have HT := hide hT
  have HI := hide hI
  clear hF2 hc2 hT hI h
  go_enter Tryd.func21, Tryd.ntmps21
  go_wp2_with fail
  refine (unhide hcall).mono ?_
  rintro r w1 ⟨rfl, hg1⟩
  have H0 := hide ((unhide H0).grown hg1)
  clear hcall hg1
  cases cv with
  | false =>
    have Hcv := hide hcv
    clear hcv
    go_wp2
    go_ret
    refine ⟨rfl, ?_⟩
    rw [← unhide HF2, ← unhide Hc2, show giveF F c n = F from by unfold giveF; rw [unhide Hcv]; rfl, show giveC F c n = c from by unfold giveC; rw [unhide Hcv]; rfl]
    exact unhide H0
  | true =>
    have hlt := can_len hcv
    have Hcv := hide hcv
    clear hcv
    obtain ⟨hs0, A1, c1, Aq, cq, ho, hh⟩ := (unhide H0).rfo
    have hst := can_stop (unhide Hcv)
    obtain rfl := ho hst
    have Hst := hide hst
    clear ho hst
    clear H0
    have e1 : hlf F = [] := by unfold hlf; rw [hs]; rfl
    unfold RB at hh
    rw [e1] at hh
    have Hs := hide hs
    clear e1 hs
    have J0 := (hh.emptyW (sz := 1) 32)
    obtain ⟨ke, hke⟩ : ∃ k, w1.heap.size = k := ⟨_, rfl⟩
    rw [hke] at J0
    obtain ⟨W2, hW2⟩ : ∃ W2, w1.alloc (.cells #[] 32) = W2 := ⟨_, rfl⟩
    rw [hW2] at J0
    have d2 : W2.cell? ⟨b, 2, none⟩ = some (.slice A1 0 c1) := (cell_blk (Heap.heap J0.f2) 2).1
    have hbl := lt_of_heap' (Heap.heap J0.f2)
    have HJ := hide J0
    clear hh J0
    go_wp2_with (at_builtin; refine wpList_append_sl (n := 0) (m := 0) rfl _ _ 23 rfl 32 i0 _ 1 2 Tryd.underlying23 hi0 hz0 hz1 hz2 rfl rfl rfl (unhide HJ).slw (unhide HJ).f3.slw (hvs_one _) (by omega) (by omega) ?_; intro v' W3 hsl hgr hblk hsp; rw [Nat.zero_add, List.nil_append] at hsl; obtain ⟨A3, cap3, rfl, _⟩ := hsl.parts; have hA := (unhide HJ).appendw hsl hgr hblk; clear HJ hsl hgr hblk hsp; refine unhide ?_)
    clear d2 hbl hke hW2
    have HJ := hide hA
    clear hA
    refine hide ?_
    go_wp2_with (at_builtin; refine wpList_append_sl (n := 0) (m := 1) rfl _ _ 23 rfl 32 i0 _ 1 2 Tryd.underlying23 hi0 hz0 hz1 hz2 rfl rfl rfl ((unhide HJ).slw.alloc _) (Sl.single _ 32 (.int .u16 (n : Nat)) (by simp)) (by simp; rfl) (by omega) (by omega) ?_; intro v' W4 hsl hgr hblk hsp; obtain ⟨A4, cap4, rfl, _⟩ := hsl.parts; have hA := ((unhide HJ).alloc _).appendw hsl hgr hblk; clear HJ hsl hgr hblk hsp; refine unhide ?_)
    have hbl := lt_of_heap' (Heap.heap hA.f2)
    have d2f := (cell_blk (Heap.heap hA.f2) 2).2
    have d2 : W4.cell? ⟨b, 2, none⟩ = some (.slice A1 0 c1) := (cell_blk (Heap.heap hA.f2) 2).1
    have h5 := hA.f2.setl 2 (.slice A4 (0 + 1) cap4)
    have H5 := hide h5
    clear hA h5
    refine hide ?_
    go_upto_region 5 with fail
    have h5 := unhide H5
    generalize W4.setCell ⟨b, 2, none⟩ (.slice A4 (0 + 1) cap4) = W5 at h5 ⊢
    clear H5 d2 d2f hbl
    obtain ⟨g1, o1, cap3, hv1, _⟩ := h5.f2.slw.addr (by omega)
    obtain ⟨hA, hcc⟩ : A4 = some ⟨g1, o1, none⟩ ∧ True := by
      injection hv1 with h1 _ _
      exact ⟨h1, trivial⟩
    subst hA
    have hx0 := h5.f2.slw.at_ (j := 0) (by omega)

    have hx : W5.cell? ⟨g1, o1, none⟩ = some (.int .u16 (n : Nat)) := hx0.2.1
    have hg1 := hx0.1
    have d2 : W5.cell? ⟨b, 2, none⟩ = some (.slice (some ⟨g1, o1, none⟩) 1 cap4) := (cell_blk (Heap.heap h5) 2).1
    have hbl := lt_of_heap' (Heap.heap h5)
    have hSh := hide (rshort_any n hn W5)
    have H5 := hide h5
    clear hv1 hx0 h5
    rw [← short_eq n hn] at hSh
    cases ha : and16 n 3 == 3 with
    | true =>
      rw [show (and16 n 3 != 3) = false by rw [bne, ha]; rfl] at hSh
      have Ha := hide ha
      clear ha
      go_wp2_with fail
      refine (unhide hSh).mono ?_
      rintro r W6 ⟨rfl, hg⟩
      have h5 := (unhide H5).grown hg
      have d2 : W6.cell? ⟨b, 2, none⟩ = some (.slice (some ⟨g1, o1, none⟩) 1 cap4) := (cell_blk (Heap.heap h5) 2).1
      have hbl := lt_of_heap' (Heap.heap h5)
      have H5 := hide h5
      clear h5 hg hSh hx hg1
      go_wp2_with fail
      go_ret
      refine ⟨rfl, ?_⟩
      rw [← unhide HF2, ← unhide Hc2, show giveF F c n = { F with first := n, some := true } from by unfold giveF; rw [unhide Hcv, unhide Hs, unhide Ha]; rfl, show giveC F c n = c from by unfold giveC; rw [unhide Hcv, unhide Hs, unhide Ha]; rfl]
      refine Heap.rfc [n] (.slice (some ⟨g1, o1, none⟩) 1 cap4) (.slice Aq F.q.length cq) (fun _ => rfl) ?_
      unfold RB
      exact (Heap.sort (L1 := [_, _, _, _]) (L2 := [_, _, _, _]) (unhide H5) [2, 0, 1, 3] rfl rfl (by decide)).tail
    | false =>
      rw [show (and16 n 3 != 3) = true by rw [bne, ha]; rfl] at hSh
      have Ha := hide ha
      clear ha
      go_wp2_with fail
      refine (unhide hSh).mono ?_
      rintro r W6 ⟨rfl, hg⟩
      have h5 := (unhide H5).grown hg
      have d1 : W6.cell? ⟨b, 1, none⟩ = some (.int .u64 F.at_) := (cell_blk (Heap.heap h5) 1).1
      have d2 : W6.cell? ⟨b, 2, none⟩ = some (.slice (some ⟨g1, o1, none⟩) 1 cap4) := (cell_blk (Heap.heap h5) 2).1
      have hbl := lt_of_heap' (Heap.heap h5)
      have H5 := hide h5
      clear h5 hg hSh hx hg1
      go_upto_region 8 with fail
      refine wp_region_E (fun w_ => GN W6 w_) GN (fun k_ v_ w_ => match k_ with
          | 0 => v_ = .pointer (some ⟨b, 0, none⟩)
          | 1 => v_ = .pointer (some ⟨b, 0, none⟩)
          | 2 => v_ = .pointer (some ⟨b, 1, none⟩)
          | 3 => v_ = .int .u64 F.at_
          | 4 => v_ = .pointer (some ⟨b, 0, none⟩)
          | 5 => v_ = .pointer (some ⟨b, 0, none⟩)
          | 6 => v_ = .pointer (some ⟨b, 2, none⟩)
          | 7 => v_ = .slice (some ⟨g1, o1, none⟩) 1 cap4
          | 8 => v_ = .int .i64 1
          | 9 => v_ = .int .i64 2
          | 10 => v_ = .agg #[.int .u64 F.at_, .int .u32 0, .int .u32 0, .int .i64 2, .int .u64 0, .int .u64 0, .int .u64 0, .int .u64 0, .int .u64 0, .int .u64 0, .int .u64 0, .int .i64 0, .int .u64 0]
          | _ => ∃ x, v_ = .pointer (some ⟨x, 0, none⟩) ∧ W6.heap.size ≤ x ∧ w_.heap[x]? = some (.cells #[.int .u64 0, .int .u32 0, .int .u32 0, .int .i64 0, .int .u64 0, .int .u64 0, .int .u64 0, .int .u64 0, .int .u64 0, .int .u64 0, .int .u64 0, .int .i64 0, .int .u64 0] 61 (0, 0))) fol (by kernel_rfl) ?_ ?_ (n := 12) rfl rfl rfl (by kernel_rfl) ?_ ?_
      · exact (GN.refl W6).drew
      · intro k_ v_ w_ w2_ h1 hg
        split at h1 <;> first | exact h1 | (obtain ⟨kk, e_, q_, r_⟩ := h1; exact ⟨kk, e_, q_, GN.heap hg r_⟩)
      · intro vals
        show wpG _ _ _ _ _ _ 0 (_ :: _) _
        refine wpG_cons (gval (.pointer (some ⟨b, 0, none⟩)) GN.refl fun w_ hJ hd => ?_) ?_
        · exact ⟨by kernel_rfl, by kernel_rfl, rfl⟩
        refine wpG_cons (gval (.pointer (some ⟨b, 0, none⟩)) GN.refl fun w_ hJ hd => ?_) ?_
        · have e0 : vals 0 = _ := hd 0 (by decide) (by kernel_rfl)
          rw [e0]
          exact ⟨by kernel_rfl, by kernel_rfl, rfl⟩
        refine wpG_cons (gval (.pointer (some ⟨b, 1, none⟩)) GN.refl fun w_ hJ hd => ?_) ?_
        · have e1 : vals 1 = _ := hd 1 (by decide) (by kernel_rfl)
          rw [e1]
          exact ⟨by kernel_rfl, by kernel_rfl, rfl⟩
        refine wpG_cons (gop (Instr.loadAt 22 (.pointer (some ⟨b, 1, none⟩))) (.int .u64 F.at_) GN.refl fun w_ hJ hd => ?_) ?_
        · have e2 : vals 2 = _ := hd 2 (by decide) (by kernel_rfl)
          rw [e2]
          exact ⟨by kernel_rfl, by kernel_rfl, run_load1 (by kernel_rfl) (cell_GN hJ d1), rfl⟩
        refine wpG_cons (gval (.pointer (some ⟨b, 0, none⟩)) GN.refl fun w_ hJ hd => ?_) ?_
        · exact ⟨by kernel_rfl, by kernel_rfl, rfl⟩
        refine wpG_cons (gval (.pointer (some ⟨b, 0, none⟩)) GN.refl fun w_ hJ hd => ?_) ?_
        · have e4 : vals 4 = _ := hd 4 (by decide) (by kernel_rfl)
          rw [e4]
          exact ⟨by kernel_rfl, by kernel_rfl, rfl⟩
        refine wpG_cons (gval (.pointer (some ⟨b, 2, none⟩)) GN.refl fun w_ hJ hd => ?_) ?_
        · have e5 : vals 5 = _ := hd 5 (by decide) (by kernel_rfl)
          rw [e5]
          exact ⟨by kernel_rfl, by kernel_rfl, rfl⟩
        refine wpG_cons (gop (Instr.loadAt 23 (.pointer (some ⟨b, 2, none⟩))) (.slice (some ⟨g1, o1, none⟩) 1 cap4) GN.refl fun w_ hJ hd => ?_) ?_
        · have e6 : vals 6 = _ := hd 6 (by decide) (by kernel_rfl)
          rw [e6]
          exact ⟨by kernel_rfl, by kernel_rfl, run_load1 (by kernel_rfl) (cell_GN hJ d2), rfl⟩
        refine wpG_cons (gval (.int .i64 1) GN.refl fun w_ hJ hd => ?_) ?_
        · have e7 : vals 7 = _ := hd 7 (by decide) (by kernel_rfl)
          rw [e7]
          exact ⟨by kernel_rfl, by kernel_rfl, rfl⟩
        refine wpG_cons (gval (.int .i64 2) GN.refl fun w_ hJ hd => ?_) ?_
        · have e8 : vals 8 = _ := hd 8 (by decide) (by kernel_rfl)
          rw [e8]
          exact ⟨by kernel_rfl, by kernel_rfl, rfl⟩
        refine wpG_cons (gval (.agg #[.int .u64 F.at_, .int .u32 0, .int .u32 0, .int .i64 2, .int .u64 0, .int .u64 0, .int .u64 0, .int .u64 0, .int .u64 0, .int .u64 0, .int .u64 0, .int .i64 0, .int .u64 0]) GN.refl fun w_ hJ hd => ?_) ?_
        · have e3 : vals 3 = _ := hd 3 (by decide) (by kernel_rfl)
          have e9 : vals 9 = _ := hd 9 (by decide) (by kernel_rfl)
          rw [e3, e9]
          exact ⟨by kernel_rfl, by kernel_rfl, rfl⟩
        refine wpG_cons (gmake fun w_ hJ hd => ?_) wpG_nil
        · exact ⟨by kernel_rfl, _, _, Eq.refl _, hJ.alloc _, (GN.refl _).alloc _, w_.heap.size, rfl, hJ.size, heap_new' _ _⟩
      · intro vals w_ hJ hf
        have e0 : vals 0 = _ := hf 0 (by decide)
        have e1 : vals 1 = _ := hf 1 (by decide)
        have e2 : vals 2 = _ := hf 2 (by decide)
        have e3 : vals 3 = _ := hf 3 (by decide)
        have e4 : vals 4 = _ := hf 4 (by decide)
        have e5 : vals 5 = _ := hf 5 (by decide)
        have e6 : vals 6 = _ := hf 6 (by decide)
        have e7 : vals 7 = _ := hf 7 (by decide)
        have e8 : vals 8 = _ := hf 8 (by decide)
        have e9 : vals 9 = _ := hf 9 (by decide)
        have e10 : vals 10 = _ := hf 10 (by decide)
        have e11 : ∃ x, (vals 11) = .pointer (some ⟨x, 0, none⟩) ∧ W6.heap.size ≤ x ∧ w_.heap[x]? = some (.cells #[.int .u64 0, .int .u32 0, .int .u32 0, .int .i64 0, .int .u64 0, .int .u64 0, .int .u64 0, .int .u64 0, .int .u64 0, .int .u64 0, .int .u64 0, .int .i64 0, .int .u64 0] 61 (0, 0)) := hf 11 (by decide)
        show Oper.wp _ _ (fillG vals 0 (_ :: _ :: _ :: _ :: _ :: _ :: _ :: _ :: _ :: _ :: _ :: _ :: []) _) _ _ _
        simp only [fillG, Nat.zero_add, Nat.reduceAdd, e0, e1, e2, e3, e4, e5, e6, e7, e8, e9, e10, Act.put, List.setIfInBounds_toArray, List.set_cons_succ, List.set_cons_zero]
        clear e0 e1 e2 e3 e4 e5 e6 e7 e8 e9 e10 hf
        generalize vals 11 = v11 at *
        obtain ⟨x, rfl, hx0, hxh⟩ := e11
        have hK := (unhide H5).freshBlk hJ hxh hx0
        refine wp_store_mid 61 (.tmp 8) (.tmp 59) rfl x 0 #[.int .u64 F.at_, .int .u32 0, .int .u32 0, .int .i64 2, .int .u64 0, .int .u64 0, .int .u64 0, .int .u64 0, .int .u64 0, .int .u64 0, .int .u64 0, .int .i64 0, .int .u64 0] rfl rfl (there_blk (xs := [_, _, _, _, _, _, _, _, _, _, _, _, _]) hxh (by simp)) (by kernel_rfl) (by kernel_rfl) ?_
        show Exit.then _ _ Exit.normal (Act.put ⟨_, _⟩ none _) _
        simp only [Act.put]
        have hJ1 := (Heap.sets [.int .u64 F.at_, .int .u32 0, .int .u32 0, .int .i64 2, .int .u64 0, .int .u64 0, .int .u64 0, .int .u64 0, .int .u64 0, .int .u64 0, .int .u64 0, .int .i64 0, .int .u64 0] (xs := [_, _, _, _, _, _, _, _, _, _, _, _, _]) hK 0)
        rw [setL_all _ _ (by rfl)] at hJ1
        clear hK hxh hJ hx0 d1 d2 hbl H5
        generalize w_.setCells x 0 [.int .u64 F.at_, .int .u32 0, .int .u32 0, .int .i64 2, .int .u64 0, .int .u64 0, .int .u64 0, .int .u64 0, .int .u64 0, .int .u64 0, .int .u64 0, .int .i64 0, .int .u64 0] = W7 at hJ1 ⊢
        have H7 := hide hJ1
        clear hJ1
        go_wp2_with fail
        go_loopw [9] (fun s wr => ∃ (i : Nat) (v : Int), s = .int .i64 i ∧ ((i = 0 ∧ v = 0) ∨ (i = 1 ∧ v = n)) ∧ Heap w0 wr (HP.blk x ([.int .u64 F.at_, .int .u32 v, .int .u32 0, .int .i64 2, .int .u64 0, .int .u64 0, .int .u64 0, .int .u64 0, .int .u64 0, .int .u64 0, .int .u64 0, .int .i64 0, .int .u64 0] : List Value).toArray 61 :: HP.blk b (rfv g F (.slice (some ⟨g1, o1, none⟩) 1 cap4) (.slice Aq F.q.length cq)).toArray 69 :: HP.slw (.slice (some ⟨g1, o1, none⟩) 1 cap4) 1 1 [.int .u16 (n : Nat)] :: HP.slw (.slice A1 0 c1) 1 0 [] :: HP.slw (.slice Aq F.q.length cq) 13 F.q.length (itsC F.q) :: HP.rg g c :: L)) (fun s _ => 1 - (intOf s).toNat)
        case atStart => exact ⟨0, 0, rfl, .inl ⟨rfl, rfl⟩, unhide H7⟩
        case round =>
          clear H7
          obtain ⟨i, v, rfl, hc, hJ⟩ := hrel
          have d2 : wr.cell? ⟨b, 2, none⟩ = some (.slice (some ⟨g1, o1, none⟩) 1 cap4) := (cell_blk (Heap.heap hJ.f2) 2).1
          have hbl := lt_of_heap' (Heap.heap hJ.f2)
          rcases hc with ⟨rfl, rfl⟩ | ⟨rfl, rfl⟩
          · have hhb := hn
            have Hx1 : Hid (wr.cell? ⟨x, 1, none⟩ = some (.int .u32 0)) := hide (cell_blk (Heap.heap hJ) 1).1
            have Hd2 := hide d2
            have Hh0 : Hid (wr.cell? ⟨g1, o1 + 0 * 1, none⟩ = some (.int .u16 (n : Nat))) := hide ((hJ.f3.slw.at_ (j := 0) (by omega)).2.1)
            have H := hide hJ
            clear hJ
            go_upto_region 12 with fail
            refine wp_region_E (fun w_ => GN wr w_) GN (fun k_ v_ w_ => match k_ with
                | 0 => v_ = .pointer (some ⟨x, 0 + 1, none⟩)
                | 1 => v_ = .int .u32 0
                | 2 => v_ = .pointer (some ⟨b, 0, none⟩)
                | 3 => v_ = .pointer (some ⟨b, 0, none⟩)
                | 4 => v_ = .pointer (some ⟨b, 0 + 2, none⟩)
                | 5 => v_ = .slice (some ⟨g1, o1, none⟩) 1 cap4
                | 6 => v_ = .int .i64 0
                | 7 => v_ = .pointer (some ⟨g1, o1 + 0 * 1, none⟩)
                | 8 => v_ = .int .u16 (n : Nat)
                | 9 => v_ = .int .u32 (n : Nat)
                | 10 => v_ = .int .i64 0
                | 11 => v_ = .int .i64 0
                | 12 => v_ = .int .u32 (n : Nat)
                | 13 => v_ = .int .u32 (0 + (n : Nat))
                | _ => v_ = .pointer (some ⟨x, 0 + 1, none⟩)) fol (by kernel_rfl) ?_ ?_ (n := 15) rfl rfl rfl (by kernel_rfl) ?_ ?_
            · exact (GN.refl wr).drew
            · intro k_ v_ w_ w2_ h1 hg
              split at h1 <;> exact h1
            · intro vals
              show wpG _ _ _ _ _ _ 0 (_ :: _) _
              refine wpG_cons (gval (.pointer (some ⟨x, 0 + 1, none⟩)) GN.refl fun w_ hJ hd => ?_) ?_
              · exact ⟨by kernel_rfl, by kernel_rfl, rfl⟩
              refine wpG_cons (gop (Instr.loadAt 33 (.pointer (some ⟨x, 0 + 1, none⟩))) (.int .u32 0) GN.refl fun w_ hJ hd => ?_) ?_
              · have e0 : vals 0 = _ := hd 0 (by decide) (by kernel_rfl)
                rw [e0]
                exact ⟨by kernel_rfl, by kernel_rfl, run_load1 (by kernel_rfl) (cell_GN hJ (unhide Hx1)), rfl⟩
              refine wpG_cons (gval (.pointer (some ⟨b, 0, none⟩)) GN.refl fun w_ hJ hd => ?_) ?_
              · exact ⟨by kernel_rfl, by kernel_rfl, rfl⟩
              refine wpG_cons (gval (.pointer (some ⟨b, 0, none⟩)) GN.refl fun w_ hJ hd => ?_) ?_
              · have e2 : vals 2 = _ := hd 2 (by decide) (by kernel_rfl)
                rw [e2]
                exact ⟨by kernel_rfl, by kernel_rfl, rfl⟩
              refine wpG_cons (gval (.pointer (some ⟨b, 0 + 2, none⟩)) GN.refl fun w_ hJ hd => ?_) ?_
              · have e3 : vals 3 = _ := hd 3 (by decide) (by kernel_rfl)
                rw [e3]
                exact ⟨by kernel_rfl, by kernel_rfl, rfl⟩
              refine wpG_cons (gop (Instr.loadAt 23 (.pointer (some ⟨b, 0 + 2, none⟩))) (.slice (some ⟨g1, o1, none⟩) 1 cap4) GN.refl fun w_ hJ hd => ?_) ?_
              · have e4 : vals 4 = _ := hd 4 (by decide) (by kernel_rfl)
                rw [e4]
                exact ⟨by kernel_rfl, by kernel_rfl, run_load1 (by kernel_rfl) (cell_GN hJ (unhide Hd2)), rfl⟩
              refine wpG_cons (gval (.int .i64 0) GN.refl fun w_ hJ hd => ?_) ?_
              · exact ⟨by kernel_rfl, by kernel_rfl, rfl⟩
              refine wpG_cons (gop (Instr.indexAt 23 (.slice (some ⟨g1, o1, none⟩) 1 cap4) (.int .i64 ((0 : Nat) : Int))) (.pointer (some ⟨g1, o1 + 0 * 1, none⟩)) GN.refl fun w_ hJ hd => ?_) ?_
              · have e5 : vals 5 = _ := hd 5 (by decide) (by kernel_rfl)
                have e6 : vals 6 = _ := hd 6 (by decide) (by kernel_rfl)
                rw [e5, e6]
                exact ⟨by kernel_rfl, by kernel_rfl, run_ixat 23 32 1 Tryd.underlying23 (by kernel_rfl) g1 o1 1 cap4 0 (by omega) w_, rfl⟩
              refine wpG_cons (gop (Instr.loadAt 32 (.pointer (some ⟨g1, o1 + 0 * 1, none⟩))) (.int .u16 (n : Nat)) GN.refl fun w_ hJ hd => ?_) ?_
              · have e7 : vals 7 = _ := hd 7 (by decide) (by kernel_rfl)
                rw [e7]
                exact ⟨by kernel_rfl, by kernel_rfl, run_load1 (by kernel_rfl) (cell_GN hJ (unhide Hh0)), rfl⟩
              refine wpG_cons (gop (convert 32 33 (.int .u16 (n : Nat))) (.int .u32 (n : Nat)) GN.refl fun w_ hJ hd => ?_) ?_
              · have e8 : vals 8 = _ := hd 8 (by decide) (by kernel_rfl)
                rw [e8]
                exact ⟨by kernel_rfl, by kernel_rfl, run_cv32 n hhb w_, rfl⟩
              refine wpG_cons (gval (.int .i64 0) GN.refl fun w_ hJ hd => ?_) ?_
              · exact ⟨by kernel_rfl, by kernel_rfl, rfl⟩
              refine wpG_cons (gval (.int .i64 0) GN.refl fun w_ hJ hd => ?_) ?_
              · have e10 : vals 10 = _ := hd 10 (by decide) (by kernel_rfl)
                rw [e10]
                exact ⟨by kernel_rfl, by kernel_rfl, rfl⟩
              refine wpG_cons (gop (binOp .shl 33 (.int .u32 (n : Nat)) (.int .i64 0)) (.int .u32 (n : Nat)) GN.refl fun w_ hJ hd => ?_) ?_
              · have e9 : vals 9 = _ := hd 9 (by decide) (by kernel_rfl)
                have e11 : vals 11 = _ := hd 11 (by decide) (by kernel_rfl)
                rw [e9, e11]
                exact ⟨by kernel_rfl, by kernel_rfl, run_shl0 n hhb w_, rfl⟩
              refine wpG_cons (gop (binOp .add 33 (.int .u32 0) (.int .u32 (n : Nat))) (.int .u32 (0 + (n : Nat))) GN.refl fun w_ hJ hd => ?_) ?_
              · have e1 : vals 1 = _ := hd 1 (by decide) (by kernel_rfl)
                have e12 : vals 12 = _ := hd 12 (by decide) (by kernel_rfl)
                rw [e1, e12]
                exact ⟨by kernel_rfl, by kernel_rfl, run_add33 0 (n : Nat) (by omega) w_, rfl⟩
              refine wpG_cons (gval (.pointer (some ⟨x, 0 + 1, none⟩)) GN.refl fun w_ hJ hd => ?_) wpG_nil
              · exact ⟨by kernel_rfl, by kernel_rfl, rfl⟩
            · intro vals w_ hJ hf
              have e0 : vals 0 = _ := hf 0 (by decide)
              have e1 : vals 1 = _ := hf 1 (by decide)
              have e2 : vals 2 = _ := hf 2 (by decide)
              have e3 : vals 3 = _ := hf 3 (by decide)
              have e4 : vals 4 = _ := hf 4 (by decide)
              have e5 : vals 5 = _ := hf 5 (by decide)
              have e6 : vals 6 = _ := hf 6 (by decide)
              have e7 : vals 7 = _ := hf 7 (by decide)
              have e8 : vals 8 = _ := hf 8 (by decide)
              have e9 : vals 9 = _ := hf 9 (by decide)
              have e10 : vals 10 = _ := hf 10 (by decide)
              have e11 : vals 11 = _ := hf 11 (by decide)
              have e12 : vals 12 = _ := hf 12 (by decide)
              have e13 : vals 13 = _ := hf 13 (by decide)
              have e14 : vals 14 = _ := hf 14 (by decide)
              show Oper.wp _ _ (fillG vals 0 (_ :: _ :: _ :: _ :: _ :: _ :: _ :: _ :: _ :: _ :: _ :: _ :: _ :: _ :: _ :: []) _) _ _ _
              simp only [fillG, Nat.zero_add, Nat.reduceAdd, e0, e1, e2, e3, e4, e5, e6, e7, e8, e9, e10, e11, e12, e13, e14, Act.put, List.setIfInBounds_toArray, List.set_cons_succ, List.set_cons_zero]
              clear e0 e1 e2 e3 e4 e5 e6 e7 e8 e9 e10 e11 e12 e13 e14 hf
              have h9 := (unhide H).grown hJ
              have b1 := cell_blk (Heap.heap h9) 1
              refine wp_last_skip (w' := w_.setCell ⟨x, 1, none⟩ (.int .u32 (0 + (n : Nat)))) (m := Instr.storeAt 33 (.pointer (some ⟨x, 1, none⟩)) (.int .u32 (0 + (n : Nat)))) (by kernel_rfl) (run_store1 (by kernel_rfl) rfl rfl b1.1 b1.2) ?_
              have h10 := h9.setl 1 (.int .u32 (0 + (n : Nat)))
              rw [show (0 : Int) + (n : Nat) = (n : Nat) by omega] at h10 ⊢
              clear h9 b1 hJ Hx1 Hd2 Hh0 H d2 hbl
              generalize w_.setCell ⟨x, 1, none⟩ (.int .u32 (n : Nat)) = W8 at h10 ⊢
              have H := hide h10
              clear h10
              go_wp2
              go_roundw

              case rel => exact ⟨1, n, by simp, .inr ⟨rfl, rfl⟩, unhide H⟩
              case measure => simp [intOf]
          · obtain ⟨ev, hev⟩ : ∃ e, exN n = e := ⟨_, rfl⟩
            have heb := exN_bd n
            rw [hev] at heb
            have Hev := hide hev
            obtain ⟨zv, hzv⟩ : ∃ z, (ev != 0) = z := ⟨_, rfl⟩
            have x1 : wr.cell? ⟨x, 1, none⟩ = some (.int .u32 (n : Nat)) := (cell_blk (Heap.heap hJ) 1).1
            have x2 : wr.cell? ⟨x, 2, none⟩ = some (.int .u32 0) := (cell_blk (Heap.heap hJ) 2).1
            have x2f := (cell_blk (Heap.heap hJ) 2).2
            have hxl := lt_of_heap' (Heap.heap hJ)
            have h9 := hJ.setl 2 (.int .u32 (n : Nat))
            have H := hide h9
            have hex := hide (rexpand_ex ((unhide HT).at h9) n hn _ (GN.refl _))
            rw [hev, hzv] at hex
            have Hzv := hide hzv
            clear hev hzv h9 hJ
            go_wp2_with fail
            refine (unhide hex).mono ?_
            rintro r W9 ⟨rfl, hg⟩
            have h9 := (unhide H).grown hg
            have H := hide h9
            clear hex hg x1 x2 x2f hxl hbl d2
            cases zv with
            | false =>
              have H00 : Hid ((exN n == 0) = true) := hide (by rw [unhide Hev]; simpa using unhide Hzv)
              have hJ2 : Heap w0 W9 (HP.slw (.slice Aq F.q.length cq) 13 F.q.length (itsC F.q) :: _) := Heap.sort (L1 := [_, _, _, _, _, _]) (L2 := [_, _, _, _, _, _]) (M := L) h9 [4, 0, 1, 2, 3, 5] rfl rfl (by decide)
              have Hsp_ : Hid (∀ g_, spare (.slice Aq F.q.length cq) = some g_ → g_ < W9.heap.size) := hide fun g_ hg_ => hJ2.slw.blk_lt (spare_blk hg_)
              clear H h9
              go_upto_region 17 with fail
              refine wp_region_XE 15 (fun fl_ w_ => (Heap w0 w_ (HP.blk x (([.int .u64 F.at_, .int .u32 (n : Nat), .int .u32 (n : Nat), .int .i64 2, .int .u64 0, .int .u64 0, .int .u64 0, .int .u64 0, .int .u64 0, .int .u64 0, .int .u64 0, .int .i64 0, .int .u64 0] : List Value)).toArray 61 :: HP.blk b (rfv g F (.slice (some ⟨g1, o1, none⟩) 1 cap4) (.slice Aq F.q.length cq)).toArray 69 :: HP.slw (.slice (some ⟨g1, o1, none⟩) 1 cap4) 1 1 [.int .u16 (n : Nat)] :: HP.slw (.slice A1 0 c1) 1 0 [] :: HP.rg g c :: L)) ∧ W9.heap.size ≤ w_.heap.size ∧ (fl_ = false → Heap w0 w_ (HP.slw (.slice Aq F.q.length cq) 13 F.q.length (itsC F.q) :: HP.blk x (([.int .u64 F.at_, .int .u32 (n : Nat), .int .u32 (n : Nat), .int .i64 2, .int .u64 0, .int .u64 0, .int .u64 0, .int .u64 0, .int .u64 0, .int .u64 0, .int .u64 0, .int .i64 0, .int .u64 0] : List Value)).toArray 61 :: HP.blk b (rfv g F (.slice (some ⟨g1, o1, none⟩) 1 cap4) (.slice Aq F.q.length cq)).toArray 69 :: HP.slw (.slice (some ⟨g1, o1, none⟩) 1 cap4) 1 1 [.int .u16 (n : Nat)] :: HP.slw (.slice A1 0 c1) 1 0 [] :: HP.rg g c :: L))) (fun i_ x_ y_ => match i_ with | 15 => x_.grownBy y_ (spare (.slice Aq F.q.length cq)) | _ => (∀ L_, Heap w0 x_ L_ → Heap w0 y_ L_) ∧ GN x_ y_) (fun k_ v_ w_ => match k_ with
                  | 0 => v_ = .pointer (some ⟨b, 0, none⟩)
                  | 1 => v_ = .pointer (some ⟨b, 0, none⟩)
                  | 2 => v_ = .pointer (some ⟨b, 0, none⟩)
                  | 3 => v_ = .pointer (some ⟨b, 4, none⟩)
                  | 4 => v_ = .slice Aq F.q.length cq
                  | 5 => v_ = .pointer (some ⟨b, 0, none⟩)
                  | 6 => v_ = .pointer (some ⟨b, 0, none⟩)
                  | 7 => v_ = .pointer (some ⟨b, 1, none⟩)
                  | 8 => v_ = .int .u64 F.at_
                  | 9 => v_ = .int .u16 (n : Nat)
                  | 10 => v_ = .int .u32 (n : Nat)
                  | 11 => v_ = .int .u16 (n : Nat)
                  | 12 => v_ = .int .u64 (n : Nat)
                  | 13 => v_ = .agg #[.int .u64 F.at_, .int .u32 (n : Nat), .int .u32 0, .int .i64 2, .int .u64 2, .int .u64 (n : Nat), .int .u64 0, .int .u64 0, .int .u64 0, .int .u64 0, .int .u64 0, .int .i64 0, .int .u64 0]
                  | 14 => ∃ kk : Nat, v_ = .slice (some ⟨kk, 0, none⟩) 1 1 ∧ W9.heap.size ≤ kk ∧ w_.heap[kk]? = some (.cells #[.int .u64 F.at_, .int .u32 (n : Nat), .int .u32 0, .int .i64 2, .int .u64 2, .int .u64 (n : Nat), .int .u64 0, .int .u64 0, .int .u64 0, .int .u64 0, .int .u64 0, .int .i64 0, .int .u64 0] 61 (0, 0))
                  | 15 => Heap w0 w_ (HP.slw v_ 13 (F.q.length + 1) (itsC F.q ++ [.int .u64 F.at_, .int .u32 (n : Nat), .int .u32 0, .int .i64 2, .int .u64 2, .int .u64 (n : Nat), .int .u64 0, .int .u64 0, .int .u64 0, .int .u64 0, .int .u64 0, .int .i64 0, .int .u64 0]) :: HP.blk x (([.int .u64 F.at_, .int .u32 (n : Nat), .int .u32 (n : Nat), .int .i64 2, .int .u64 0, .int .u64 0, .int .u64 0, .int .u64 0, .int .u64 0, .int .u64 0, .int .u64 0, .int .i64 0, .int .u64 0] : List Value)).toArray 61 :: HP.blk b (rfv g F (.slice (some ⟨g1, o1, none⟩) 1 cap4) (.slice Aq F.q.length cq)).toArray 69 :: HP.slw (.slice (some ⟨g1, o1, none⟩) 1 cap4) 1 1 [.int .u16 (n : Nat)] :: HP.slw (.slice A1 0 c1) 1 0 [] :: HP.rg g c :: L)
                  | 16 => v_ = .pointer (some ⟨b, 0, none⟩)
                  | _ => v_ = .pointer (some ⟨b, 4, none⟩)) fol (by kernel_rfl) ?_ ?_ (by decide) (n := 18) rfl rfl rfl (by kernel_rfl) ?_ ?_
              · exact ⟨hJ2.tail.drew, Nat.le_refl _, fun _ => hJ2.drew⟩
              · intro i_ k_ v_ w_ w2_ hne h1 hg
                split at h1
                all_goals first
                  | exact h1
                  | (obtain ⟨kk, e_, q_, r_⟩ := h1; split at hg; exact ⟨kk, e_, q_, (World.grownBy.block hg kk (lt_of_heap' r_) (fun c_ => by have := unhide Hsp_ _ c_.symm; omega)).trans r_⟩; exact ⟨kk, e_, q_, hg.2.heap r_⟩)
                  | (split at hg; exact absurd rfl hne; exact hg.1 _ h1)
              · intro vals
                show wpX _ _ _ _ _ _ _ 0 (_ :: _) _
                refine wpX_cons (xval (.pointer (some ⟨b, 0, none⟩)) (fun _ => ⟨fun _ h_ => h_, GN.refl _⟩) (by decide) fun fl_ w_ hJ hd => ?_) ?_
                · exact ⟨by kernel_rfl, by kernel_rfl, rfl⟩
                refine wpX_cons (xval (.pointer (some ⟨b, 0, none⟩)) (fun _ => ⟨fun _ h_ => h_, GN.refl _⟩) (by decide) fun fl_ w_ hJ hd => ?_) ?_
                · exact ⟨by kernel_rfl, by kernel_rfl, rfl⟩
                refine wpX_cons (xval (.pointer (some ⟨b, 0, none⟩)) (fun _ => ⟨fun _ h_ => h_, GN.refl _⟩) (by decide) fun fl_ w_ hJ hd => ?_) ?_
                · have e1 : vals 1 = _ := hd 1 (by decide) (by kernel_rfl)
                  rw [e1]
                  exact ⟨by kernel_rfl, by kernel_rfl, rfl⟩
                refine wpX_cons (xval (.pointer (some ⟨b, 4, none⟩)) (fun _ => ⟨fun _ h_ => h_, GN.refl _⟩) (by decide) fun fl_ w_ hJ hd => ?_) ?_
                · have e2 : vals 2 = _ := hd 2 (by decide) (by kernel_rfl)
                  rw [e2]
                  exact ⟨by kernel_rfl, by kernel_rfl, rfl⟩
                refine wpX_cons (xop (Instr.loadAt 67 (.pointer (some ⟨b, 4, none⟩))) (.slice Aq F.q.length cq) (fun _ => ⟨fun _ h_ => h_, GN.refl _⟩) (by decide) fun fl_ w_ hJ hd => ?_) ?_
                · have e3 : vals 3 = _ := hd 3 (by decide) (by kernel_rfl)
                  rw [e3]
                  exact ⟨by kernel_rfl, by kernel_rfl, run_load1 (by kernel_rfl) (cell_blk (Heap.heap (Heap.f2 hJ.1)) 4).1, rfl⟩
                refine wpX_cons (xval (.pointer (some ⟨b, 0, none⟩)) (fun _ => ⟨fun _ h_ => h_, GN.refl _⟩) (by decide) fun fl_ w_ hJ hd => ?_) ?_
                · exact ⟨by kernel_rfl, by kernel_rfl, rfl⟩
                refine wpX_cons (xval (.pointer (some ⟨b, 0, none⟩)) (fun _ => ⟨fun _ h_ => h_, GN.refl _⟩) (by decide) fun fl_ w_ hJ hd => ?_) ?_
                · have e5 : vals 5 = _ := hd 5 (by decide) (by kernel_rfl)
                  rw [e5]
                  exact ⟨by kernel_rfl, by kernel_rfl, rfl⟩
                refine wpX_cons (xval (.pointer (some ⟨b, 1, none⟩)) (fun _ => ⟨fun _ h_ => h_, GN.refl _⟩) (by decide) fun fl_ w_ hJ hd => ?_) ?_
                · have e6 : vals 6 = _ := hd 6 (by decide) (by kernel_rfl)
                  rw [e6]
                  exact ⟨by kernel_rfl, by kernel_rfl, rfl⟩
                refine wpX_cons (xop (Instr.loadAt 22 (.pointer (some ⟨b, 1, none⟩))) (.int .u64 F.at_) (fun _ => ⟨fun _ h_ => h_, GN.refl _⟩) (by decide) fun fl_ w_ hJ hd => ?_) ?_
                · have e7 : vals 7 = _ := hd 7 (by decide) (by kernel_rfl)
                  rw [e7]
                  exact ⟨by kernel_rfl, by kernel_rfl, run_load1 (by kernel_rfl) (cell_blk (Heap.heap (Heap.f2 hJ.1)) 1).1, rfl⟩
                refine wpX_cons (xval (.int .u16 (n : Nat)) (fun _ => ⟨fun _ h_ => h_, GN.refl _⟩) (by decide) fun fl_ w_ hJ hd => ?_) ?_
                · exact ⟨by kernel_rfl, by kernel_rfl, rfl⟩
                refine wpX_cons (xop (convert 32 33 (.int .u16 (n : Nat))) (.int .u32 (n : Nat)) (fun _ => ⟨fun _ h_ => h_, GN.refl _⟩) (by decide) fun fl_ w_ hJ hd => ?_) ?_
                · have e9 : vals 9 = _ := hd 9 (by decide) (by kernel_rfl)
                  rw [e9]
                  exact ⟨by kernel_rfl, by kernel_rfl, run_cv32 n hn w_, rfl⟩
                refine wpX_cons (xval (.int .u16 (n : Nat)) (fun _ => ⟨fun _ h_ => h_, GN.refl _⟩) (by decide) fun fl_ w_ hJ hd => ?_) ?_
                · exact ⟨by kernel_rfl, by kernel_rfl, rfl⟩
                refine wpX_cons (xop (convert 32 22 (.int .u16 (n : Nat))) (.int .u64 (n : Nat)) (fun _ => ⟨fun _ h_ => h_, GN.refl _⟩) (by decide) fun fl_ w_ hJ hd => ?_) ?_
                · have e11 : vals 11 = _ := hd 11 (by decide) (by kernel_rfl)
                  rw [e11]
                  exact ⟨by kernel_rfl, by kernel_rfl, run_cv64 n hn w_, rfl⟩
                refine wpX_cons (xval (.agg #[.int .u64 F.at_, .int .u32 (n : Nat), .int .u32 0, .int .i64 2, .int .u64 2, .int .u64 (n : Nat), .int .u64 0, .int .u64 0, .int .u64 0, .int .u64 0, .int .u64 0, .int .i64 0, .int .u64 0]) (fun _ => ⟨fun _ h_ => h_, GN.refl _⟩) (by decide) fun fl_ w_ hJ hd => ?_) ?_
                · have e8 : vals 8 = _ := hd 8 (by decide) (by kernel_rfl)
                  have e10 : vals 10 = _ := hd 10 (by decide) (by kernel_rfl)
                  have e12 : vals 12 = _ := hd 12 (by decide) (by kernel_rfl)
                  rw [e8, e10, e12]
                  exact ⟨by kernel_rfl, by kernel_rfl, rfl⟩
                refine wpX_cons (xmake (by decide) fun fl_ w_ hJ hd => ?_) ?_
                · have e13 : vals 13 = _ := hd 13 (by decide) (by kernel_rfl)
                  rw [e13]
                  exact ⟨by kernel_rfl, _, w_.alloc (.cells #[.int .u64 F.at_, .int .u32 (n : Nat), .int .u32 0, .int .i64 2, .int .u64 2, .int .u64 (n : Nat), .int .u64 0, .int .u64 0, .int .u64 0, .int .u64 0, .int .u64 0, .int .i64 0, .int .u64 0] 61), (by kernel_rfl : _ = Result.ok (Next.value (.slice (some ⟨w_.heap.size, 0, none⟩) 1 1)) _), ⟨hJ.1.alloc _, Nat.le_trans hJ.2.1 (by simp), fun h_ => (hJ.2.2 h_).alloc _⟩, ⟨fun _ h_ => h_.alloc _, grown_b1 _ _⟩, w_.heap.size, rfl, hJ.2.1, heap_new' _ _⟩
                refine wpX_cons (xevent rfl fun w_ hJ hd => ?_) ?_
                · have e4 : vals 4 = _ := hd 4 (by decide) (by kernel_rfl)
                  have e14 : ∃ kk : Nat, (vals 14) = .slice (some ⟨kk, 0, none⟩) 1 1 ∧ W9.heap.size ≤ kk ∧ w_.heap[kk]? = some (.cells #[.int .u64 F.at_, .int .u32 (n : Nat), .int .u32 0, .int .i64 2, .int .u64 2, .int .u64 (n : Nat), .int .u64 0, .int .u64 0, .int .u64 0, .int .u64 0, .int .u64 0, .int .i64 0, .int .u64 0] 61 (0, 0)) := hd 14 (by decide) (by kernel_rfl)
                  rw [e4]
                  obtain ⟨kk, e_, q_, r_⟩ := e14
                  rw [e_]
                  have hB_ := hJ.2.2 rfl
                  obtain ⟨v', w', hr_, hsl_, hgr_, hblk_, _⟩ := run_append_sl (P := Tryd.prog) w_ 67 67 61 j0 _ 13 96 Tryd.underlying67 hj0 hy0 hy1 hy2 rfl hB_.slw (sl_blk (n := 1) (sz := 13) (xs := [.int .u64 F.at_, .int .u32 (n : Nat), .int .u32 0, .int .i64 2, .int .u64 2, .int .u64 (n : Nat), .int .u64 0, .int .u64 0, .int .u64 0, .int .u64 0, .int .u64 0, .int .i64 0, .int .u64 0]) r_ rfl) (itl_cell ⟨F.at_, n, 0, 2, 2, n, 0, Z0⟩) (by omega) (by omega)
                  have hA_ := hB_.appendw hsl_ hgr_ hblk_
                  exact ⟨by kernel_rfl, v', w', Eq.trans (b := Sem.run Tryd.prog (do let r ← Builtin.append_ #[67, 67] 67 #[.slice Aq F.q.length cq, .slice (some ⟨kk, 0, none⟩) 1 1]; pure (Next.value r)) w_) (by kernel_rfl) (run_val hr_), ⟨hA_.tail, Nat.le_trans hJ.2.1 hgr_.size, fun h_ => by cases h_⟩, hgr_, hA_⟩
                refine wpX_cons (xval (.pointer (some ⟨b, 0, none⟩)) (fun _ => ⟨fun _ h_ => h_, GN.refl _⟩) (by decide) fun fl_ w_ hJ hd => ?_) ?_
                · have e0 : vals 0 = _ := hd 0 (by decide) (by kernel_rfl)
                  rw [e0]
                  exact ⟨by kernel_rfl, by kernel_rfl, rfl⟩
                refine wpX_cons (xval (.pointer (some ⟨b, 4, none⟩)) (fun _ => ⟨fun _ h_ => h_, GN.refl _⟩) (by decide) fun fl_ w_ hJ hd => ?_) wpX_nil
                · have e16 : vals 16 = _ := hd 16 (by decide) (by kernel_rfl)
                  rw [e16]
                  exact ⟨by kernel_rfl, by kernel_rfl, rfl⟩
              intro vals w_ hJ hf
              have e0 : vals 0 = _ := hf 0 (by decide)
              have e1 : vals 1 = _ := hf 1 (by decide)
              have e2 : vals 2 = _ := hf 2 (by decide)
              have e3 : vals 3 = _ := hf 3 (by decide)
              have e4 : vals 4 = _ := hf 4 (by decide)
              have e5 : vals 5 = _ := hf 5 (by decide)
              have e6 : vals 6 = _ := hf 6 (by decide)
              have e7 : vals 7 = _ := hf 7 (by decide)
              have e8 : vals 8 = _ := hf 8 (by decide)
              have e9 : vals 9 = _ := hf 9 (by decide)
              have e10 : vals 10 = _ := hf 10 (by decide)
              have e11 : vals 11 = _ := hf 11 (by decide)
              have e12 : vals 12 = _ := hf 12 (by decide)
              have e13 : vals 13 = _ := hf 13 (by decide)
              have e16 : vals 16 = _ := hf 16 (by decide)
              have e17 : vals 17 = _ := hf 17 (by decide)
              have e15 : Heap w0 w_ (HP.slw (vals 15) 13 (F.q.length + 1) (itsC F.q ++ [.int .u64 F.at_, .int .u32 (n : Nat), .int .u32 0, .int .i64 2, .int .u64 2, .int .u64 (n : Nat), .int .u64 0, .int .u64 0, .int .u64 0, .int .u64 0, .int .u64 0, .int .i64 0, .int .u64 0]) :: HP.blk x (([.int .u64 F.at_, .int .u32 (n : Nat), .int .u32 (n : Nat), .int .i64 2, .int .u64 0, .int .u64 0, .int .u64 0, .int .u64 0, .int .u64 0, .int .u64 0, .int .u64 0, .int .i64 0, .int .u64 0] : List Value)).toArray 61 :: HP.blk b (rfv g F (.slice (some ⟨g1, o1, none⟩) 1 cap4) (.slice Aq F.q.length cq)).toArray 69 :: HP.slw (.slice (some ⟨g1, o1, none⟩) 1 cap4) 1 1 [.int .u16 (n : Nat)] :: HP.slw (.slice A1 0 c1) 1 0 [] :: HP.rg g c :: L) := hf 15 (by decide)
              show Oper.wp _ _ (fillG vals 0 (_ :: _ :: _ :: _ :: _ :: _ :: _ :: _ :: _ :: _ :: _ :: _ :: _ :: _ :: _ :: _ :: _ :: _ :: []) _) _ _ _
              simp only [fillG, Nat.zero_add, Nat.reduceAdd, e0, e1, e2, e3, e4, e5, e6, e7, e8, e9, e10, e11, e12, e13, e16, e17, Act.put, List.setIfInBounds_toArray, List.set_cons_succ, List.set_cons_zero]
              clear e0 e1 e2 e3 e4 e5 e6 e7 e8 e9 e10 e11 e12 e13 e16 e17 hf
              generalize vals 14 = v14 at *
              generalize vals 15 = v15 at *
              obtain ⟨A2, cap2, rfl, _⟩ := (Heap.slw e15).parts
              have b5 := cell_blk (Heap.heap (Heap.f3 e15)) 4
              show Oper.wp _ (Oper.mk none _ _ _ _ _) _ _ _ _
              refine wp_last_skip (w' := w_.setCell ⟨b, 4, none⟩ (.slice A2 (F.q.length + 1) cap2)) (m := Instr.storeAt 67 (.pointer (some ⟨b, 4, none⟩)) (.slice A2 (F.q.length + 1) cap2)) (by kernel_rfl) (run_store1 (by kernel_rfl) rfl rfl b5.1 b5.2) ?_
              show Exit.then _ _ Exit.normal (Act.put ⟨_, _⟩ none _) _
              simp only [Act.put]
              have hJ3 := (Heap.f3 e15).setl 4 (.slice A2 (F.q.length + 1) cap2)
              clear b5 e15 hJ hJ2 Hsp_
              generalize World.setCell w_ ⟨b, 4, none⟩ (.slice A2 (F.q.length + 1) cap2) = W3 at hJ3 ⊢
              obtain ⟨b4, b4f⟩ := (cell_blk (Heap.heap hJ3) 3)
              have b4 : W3.cell? ⟨b, 3, none⟩ = some (.bool F.stop) := b4
              have hbl := lt_of_heap' (Heap.heap hJ3)
              have hJ4 := hide (hJ3.setl 3 (.bool true))
              clear hJ3
              go_wp2
              go_ret
              refine ⟨rfl, ?_⟩
              rw [← unhide HF2, ← unhide Hc2, show giveF F c n = trapF F n 2 2 n from by unfold giveF; rw [unhide Hcv, unhide Hs, unhide Ha, unhide H00]; rfl, show giveC F c n = c from by unfold giveC; rw [unhide Hcv, unhide Hs, unhide Ha, unhide H00]; rfl]
              refine Heap.rfc [n] (.slice (some ⟨g1, o1, none⟩) 1 cap4) (.slice A2 (F.q.length + 1) cap2) (fun h => by cases h) ?_
              unfold RB trapF
              rw [itsC_snoc, List.length_append]
              exact (Heap.sort (L1 := [_, _, _, _, _, _]) (L2 := [_, _, _, _, _, _]) (M := L) (unhide hJ4) [2, 4, 0, 3, 1, 5] rfl rfl (by decide)).tail.tail
            | true =>
              have H00 : Hid ((exN n == 0) = false) := hide (by rw [unhide Hev]; simpa using unhide Hzv)
              have x2 : W9.cell? ⟨x, 2, none⟩ = some (.int .u32 (n : Nat)) := (cell_blk (Heap.heap h9) 2).1
              have x2f := (cell_blk (Heap.heap h9) 2).2
              have hxl := lt_of_heap' (Heap.heap h9)
              have b0 : W9.cell? ⟨b, 0, none⟩ = some (.pointer (some ⟨g, 0, none⟩)) := (cell_blk (Heap.heap h9.f2) 0).1
              have hbl := lt_of_heap' (Heap.heap h9.f2)
              have H := hide (h9.setl 2 (.int .u32 (ev : Nat)))
              clear h9
              go_upto_region 21 with fail
              generalize W9.setCell ⟨x, 2, none⟩ (.int .u32 (ev : Nat)) = W9 at H ⊢
              have h9 := unhide H
              obtain ⟨_, _, _, _, _, _, _, _, _, _, _, gi, _⟩ := (Heap.sort (L1 := [_, _, _, _, _, _]) (L2 := [_, _, _, _, _, _]) (M := L) h9 [5, 0, 1, 2, 3, 4] rfl rfl (by decide)).rgo
              obtain ⟨a0, a1⟩ := (unhide HI).at_
              obtain ⟨X, hX⟩ : ∃ X, nOut c F.at_ 2 = X := ⟨_, rfl⟩
              have hXb := nOut_bd gi F.at_ 2
              rw [hX] at hXb
              have HX := hide hX
              clear hX gi
              have b0 : W9.cell? ⟨b, 0, none⟩ = some (.pointer (some ⟨g, 0, none⟩)) := (cell_blk (Heap.heap h9.f2) 0).1
              have hbl := lt_of_heap' (Heap.heap h9.f2)
              clear h9
              go_wp2_with fail
              refine (stackR_h (Heap.sort (L1 := [_, _, _, _, _, _]) (L2 := [_, _, _, _, _, _]) (M := L) (unhide H) [5, 0, 1, 2, 3, 4] rfl rfl (by decide))).mono ?_
              rintro r W10 ⟨rfl, h10⟩
              clear H b0 hbl
              have h11 := Heap.sort (L1 := [_, _]) (L2 := [_, _]) (M := _ :: _ :: _ :: _ :: L) h10 [1, 0] rfl rfl (by decide)
              have hxl := lt_of_heap' (Heap.heap h11)
              have Ht := hide (there_blk (xs := [.int .u64 F.at_, .int .u32 (n : Nat), .int .u32 (ev : Nat), .int .i64 2, .int .u64 0, .int .u64 0, .int .u64 0, .int .u64 0, .int .u64 0, .int .u64 0, .int .u64 0, .int .i64 0, .int .u64 0]) (Heap.heap h11) (o := 7) (n := 4) (by simp))
              have H11 := hide h11
              clear h10 h11
              go_wp2_with (refine wpList_store_mid rfl 34 (.tmp 127) (.tmp 124) rfl x 7 #[.int .u64 (c 112), .int .u64 (c 113), .int .u64 (c 114), .int .u64 (c 115)] rfl rfl ?_ (by kernel_rfl) (by kernel_rfl) ?_; rotate_left; refine unhide ?_)
              rotate_left
              · exact unhide Ht
              clear Ht
              have h12 := Heap.sets [.int .u64 (c 112), .int .u64 (c 113), .int .u64 (c 114), .int .u64 (c 115)] (xs := [.int .u64 F.at_, .int .u32 (n : Nat), .int .u32 (ev : Nat), .int .i64 2, .int .u64 0, .int .u64 0, .int .u64 0, .int .u64 0, .int .u64 0, .int .u64 0, .int .u64 0, .int .i64 0, .int .u64 0]) (unhide H11) 7
              have h12 : Heap w0 _ (HP.blk x ([.int .u64 F.at_, .int .u32 (n : Nat), .int .u32 (ev : Nat), .int .i64 2, .int .u64 0, .int .u64 0, .int .u64 0, .int .u64 (c 112), .int .u64 (c 113), .int .u64 (c 114), .int .u64 (c 115), .int .i64 0, .int .u64 0] : List Value).toArray 61 :: _) := h12
              generalize W10.setCells x 7 [.int .u64 (c 112), .int .u64 (c 113), .int .u64 (c 114), .int .u64 (c 115)] = W11 at h12 ⊢
              have x11 : W11.cell? ⟨x, 11, none⟩ = some (.int .i64 0) := (cell_blk (Heap.heap h12) 11).1
              have x11f := (cell_blk (Heap.heap h12) 11).2
              have x12 : W11.cell? ⟨x, 12, none⟩ = some (.int .u64 0) := (cell_blk (Heap.heap h12) 12).1
              have x12f := (cell_blk (Heap.heap h12) 12).2
              have hxl := lt_of_heap' (Heap.heap h12)
              have H12 := hide ((h12.setl 11 (.int .i64 (c 116))).setl 12 (.int .u64 (c 117)))
              clear h12 H11
              refine hide ?_
              go_upto_region 22 with fail
              have h13 := unhide H12
              have h13 : Heap w0 _ (HP.blk x ([.int .u64 F.at_, .int .u32 (n : Nat), .int .u32 (ev : Nat), .int .i64 2, .int .u64 0, .int .u64 0, .int .u64 0, .int .u64 (c 112), .int .u64 (c 113), .int .u64 (c 114), .int .u64 (c 115), .int .i64 (c 116), .int .u64 (c 117)] : List Value).toArray 61 :: HP.rg g c :: _) := h13
              generalize (W11.setCell ⟨x, 11, none⟩ (.int .i64 (c 116))).setCell ⟨x, 12, none⟩ (.int .u64 (c 117)) = W12 at h13 ⊢
              clear H12 x11 x11f x12 x12f hxl
              have hJ1 := Heap.sort (L1 := [_, _]) (L2 := [_, _]) (M := _ :: _ :: _ :: _ :: L) h13 [1, 0] rfl rfl (by decide)
              clear h13
              refine wp_region_XE 10 (fun fl_ w_ => Heap w0 w_ (HP.rg g (bif fl_ then nSt c F.at_ 2 else c) :: HP.blk x ([.int .u64 F.at_, .int .u32 (n : Nat), .int .u32 (ev : Nat), .int .i64 2, .int .u64 0, .int .u64 0, .int .u64 0, .int .u64 (c 112), .int .u64 (c 113), .int .u64 (c 114), .int .u64 (c 115), .int .i64 (c 116), .int .u64 (c 117)] : List Value).toArray 61 :: HP.blk b (rfv g F (.slice (some ⟨g1, o1, none⟩) 1 cap4) (.slice Aq F.q.length cq)).toArray 69 :: HP.slw (.slice (some ⟨g1, o1, none⟩) 1 cap4) 1 1 [.int .u16 (n : Nat)] :: HP.slw (.slice A1 0 c1) 1 0 [] :: HP.slw (.slice Aq F.q.length cq) 13 F.q.length (itsC F.q) :: L)) (fun _ _ _ => True) (fun k_ v_ w_ => match k_ with
                  | 0 => v_ = .pointer (some ⟨b, 0, none⟩)
                  | 1 => v_ = .pointer (some ⟨b, 0, none⟩)
                  | 2 => v_ = .pointer (some ⟨b, 0, none⟩)
                  | 3 => v_ = .pointer (some ⟨g, 0, none⟩)
                  | 4 => v_ = .pointer (some ⟨b, 0, none⟩)
                  | 5 => v_ = .pointer (some ⟨b, 0, none⟩)
                  | 6 => v_ = .pointer (some ⟨b, 1, none⟩)
                  | 7 => v_ = .int .u64 F.at_
                  | 8 => v_ = .pointer (some ⟨x, 3, none⟩)
                  | 9 => v_ = .int .i64 2
                  | _ => v_ = .int .u64 X) fol (by kernel_rfl) ?_ ?_ (by decide) (n := 11) rfl rfl rfl (by kernel_rfl) ?_ ?_
              · exact hJ1.drew
              · intro i_ k_ v_ w_ w2_ hne h1 hg
                split at h1 <;> exact h1
              · intro vals
                show wpX _ _ _ _ _ _ _ 0 (_ :: _) _
                refine wpX_cons (xval (.pointer (some ⟨b, 0, none⟩)) (fun _ => trivial) (by decide) fun fl_ w_ hJ hd => ?_) ?_
                · exact ⟨by kernel_rfl, by kernel_rfl, rfl⟩
                refine wpX_cons (xval (.pointer (some ⟨b, 0, none⟩)) (fun _ => trivial) (by decide) fun fl_ w_ hJ hd => ?_) ?_
                · have e0 : vals 0 = _ := hd 0 (by decide) (by kernel_rfl)
                  rw [e0]
                  exact ⟨by kernel_rfl, by kernel_rfl, rfl⟩
                refine wpX_cons (xval (.pointer (some ⟨b, 0, none⟩)) (fun _ => trivial) (by decide) fun fl_ w_ hJ hd => ?_) ?_
                · have e1 : vals 1 = _ := hd 1 (by decide) (by kernel_rfl)
                  rw [e1]
                  exact ⟨by kernel_rfl, by kernel_rfl, rfl⟩
                refine wpX_cons (xop (Instr.loadAt 54 (.pointer (some ⟨b, 0, none⟩))) (.pointer (some ⟨g, 0, none⟩)) (fun _ => trivial) (by decide) fun fl_ w_ hJ hd => ?_) ?_
                · have e2 : vals 2 = _ := hd 2 (by decide) (by kernel_rfl)
                  rw [e2]
                  exact ⟨by kernel_rfl, by kernel_rfl, run_load1 (by kernel_rfl) (cell_blk (Heap.heap hJ.f3) 0).1, rfl⟩
                refine wpX_cons (xval (.pointer (some ⟨b, 0, none⟩)) (fun _ => trivial) (by decide) fun fl_ w_ hJ hd => ?_) ?_
                · exact ⟨by kernel_rfl, by kernel_rfl, rfl⟩
                refine wpX_cons (xval (.pointer (some ⟨b, 0, none⟩)) (fun _ => trivial) (by decide) fun fl_ w_ hJ hd => ?_) ?_
                · have e4 : vals 4 = _ := hd 4 (by decide) (by kernel_rfl)
                  rw [e4]
                  exact ⟨by kernel_rfl, by kernel_rfl, rfl⟩
                refine wpX_cons (xval (.pointer (some ⟨b, 1, none⟩)) (fun _ => trivial) (by decide) fun fl_ w_ hJ hd => ?_) ?_
                · have e5 : vals 5 = _ := hd 5 (by decide) (by kernel_rfl)
                  rw [e5]
                  exact ⟨by kernel_rfl, by kernel_rfl, rfl⟩
                refine wpX_cons (xop (Instr.loadAt 22 (.pointer (some ⟨b, 1, none⟩))) (.int .u64 F.at_) (fun _ => trivial) (by decide) fun fl_ w_ hJ hd => ?_) ?_
                · have e6 : vals 6 = _ := hd 6 (by decide) (by kernel_rfl)
                  rw [e6]
                  exact ⟨by kernel_rfl, by kernel_rfl, run_load1 (by kernel_rfl) (cell_blk (Heap.heap hJ.f3) 1).1, rfl⟩
                refine wpX_cons (xval (.pointer (some ⟨x, 3, none⟩)) (fun _ => trivial) (by decide) fun fl_ w_ hJ hd => ?_) ?_
                · exact ⟨by kernel_rfl, by kernel_rfl, rfl⟩
                refine wpX_cons (xop (Instr.loadAt 3 (.pointer (some ⟨x, 3, none⟩))) (.int .i64 2) (fun _ => trivial) (by decide) fun fl_ w_ hJ hd => ?_) ?_
                · have e8 : vals 8 = _ := hd 8 (by decide) (by kernel_rfl)
                  rw [e8]
                  exact ⟨by kernel_rfl, by kernel_rfl, run_load1 (by kernel_rfl) (cell_blk (Heap.heap hJ.f2) 3).1, rfl⟩
                refine wpX_cons (xcall rfl 39 #[.pointer (some ⟨g, 0, none⟩), .int .u64 F.at_, .int .i64 2] fun w_ hJ hd => ?_) wpX_nil
                · have e3 : vals 3 = _ := hd 3 (by decide) (by kernel_rfl)
                  have e7 : vals 7 = _ := hd 7 (by decide) (by kernel_rfl)
                  have e9 : vals 9 = _ := hd 9 (by decide) (by kernel_rfl)
                  rw [e3, e7, e9]
                  exact ⟨by kernel_rfl, by kernel_rfl, (nextR_h (c := c) hJ F.at_ 2 a0 a1).mono fun r_ w'' ⟨hr_, h_⟩ => ⟨_, by rw [hr_, unhide HX], h_, trivial, rfl⟩⟩
              · intro vals w_ hJ hf
                have e0 : vals 0 = _ := hf 0 (by decide)
                have e1 : vals 1 = _ := hf 1 (by decide)
                have e2 : vals 2 = _ := hf 2 (by decide)
                have e3 : vals 3 = _ := hf 3 (by decide)
                have e4 : vals 4 = _ := hf 4 (by decide)
                have e5 : vals 5 = _ := hf 5 (by decide)
                have e6 : vals 6 = _ := hf 6 (by decide)
                have e7 : vals 7 = _ := hf 7 (by decide)
                have e8 : vals 8 = _ := hf 8 (by decide)
                have e9 : vals 9 = _ := hf 9 (by decide)
                have e10 : vals 10 = _ := hf 10 (by decide)
                show Oper.wp _ _ (fillG vals 0 (_ :: _ :: _ :: _ :: _ :: _ :: _ :: _ :: _ :: _ :: _ :: []) _) _ _ _
                simp only [fillG, Nat.zero_add, Nat.reduceAdd, e0, e1, e2, e3, e4, e5, e6, e7, e8, e9, e10, Act.put, List.setIfInBounds_toArray, List.set_cons_succ, List.set_cons_zero]
                clear e0 e1 e2 e3 e4 e5 e6 e7 e8 e9 e10 hf
                have h14 := hJ.f2
                clear hJ hJ1
                refine wp_last_value (v := .int .u64 X) (w' := w_) (by kernel_rfl) ?_
                show Exit.then _ _ Exit.normal (Act.put ⟨_, _⟩ (some 12) _) _
                simp only [Act.put, List.setIfInBounds_toArray, List.set_cons_succ, List.set_cons_zero]
                have x6 : w_.cell? ⟨x, 6, none⟩ = some (.int .u64 0) := (cell_blk (Heap.heap h14) 6).1
                have x6f := (cell_blk (Heap.heap h14) 6).2
                have hxl := lt_of_heap' (Heap.heap h14)
                have H14 := hide (h14.setl 6 (.int .u64 (X / 2 * 2)))
                have qX : X.tdiv 2 = X / 2 := quo2 X hXb.1
                clear h14
                obtain ⟨X0, X1⟩ := hXb
                go_upto_region 24 with fail
                have h15 := unhide H14
                have h15 : Heap w0 _ (HP.blk x ([.int .u64 F.at_, .int .u32 (n : Nat), .int .u32 (ev : Nat), .int .i64 2, .int .u64 0, .int .u64 0, .int .u64 (evn X), .int .u64 (c 112), .int .u64 (c 113), .int .u64 (c 114), .int .u64 (c 115), .int .i64 (c 116), .int .u64 (c 117)] : List Value).toArray 61 :: _) := h15
                generalize w_.setCell ⟨x, 6, none⟩ (.int .u64 (X / 2 * 2)) = W2 at h15 ⊢
                have hJ2 : Heap w0 _ (HP.slw (.slice Aq F.q.length cq) 13 F.q.length (itsC F.q) :: HP.blk x ([.int .u64 F.at_, .int .u32 (n : Nat), .int .u32 (ev : Nat), .int .i64 2, .int .u64 0, .int .u64 0, .int .u64 (evn X), .int .u64 (c 112), .int .u64 (c 113), .int .u64 (c 114), .int .u64 (c 115), .int .i64 (c 116), .int .u64 (c 117)] : List Value).toArray 61 :: HP.blk b (rfv g F (.slice (some ⟨g1, o1, none⟩) 1 cap4) (.slice Aq F.q.length cq)).toArray 69 :: HP.slw (.slice (some ⟨g1, o1, none⟩) 1 cap4) 1 1 [.int .u16 (n : Nat)] :: HP.slw (.slice A1 0 c1) 1 0 [] :: HP.rg g (nSt c F.at_ 2) :: L) := Heap.sort (L1 := [_, _, _, _, _, _]) (L2 := [_, _, _, _, _, _]) (M := L) h15 [5, 0, 2, 3, 4, 1] rfl rfl (by decide)
                clear h15 H14 x6 x6f hxl qX
                have Hsp_ : Hid (∀ g_, spare (.slice Aq F.q.length cq) = some g_ → g_ < W2.heap.size) := hide fun g_ hg_ => hJ2.slw.blk_lt (spare_blk hg_)
                refine wp_region_XE 7 (fun fl_ w_ => (Heap w0 w_ (HP.blk x ([.int .u64 F.at_, .int .u32 (n : Nat), .int .u32 (ev : Nat), .int .i64 2, .int .u64 0, .int .u64 0, .int .u64 (evn X), .int .u64 (c 112), .int .u64 (c 113), .int .u64 (c 114), .int .u64 (c 115), .int .i64 (c 116), .int .u64 (c 117)] : List Value).toArray 61 :: HP.blk b (rfv g F (.slice (some ⟨g1, o1, none⟩) 1 cap4) (.slice Aq F.q.length cq)).toArray 69 :: HP.slw (.slice (some ⟨g1, o1, none⟩) 1 cap4) 1 1 [.int .u16 (n : Nat)] :: HP.slw (.slice A1 0 c1) 1 0 [] :: HP.rg g (nSt c F.at_ 2) :: L)) ∧ W2.heap.size ≤ w_.heap.size ∧ (fl_ = false → Heap w0 w_ (HP.slw (.slice Aq F.q.length cq) 13 F.q.length (itsC F.q) :: HP.blk x ([.int .u64 F.at_, .int .u32 (n : Nat), .int .u32 (ev : Nat), .int .i64 2, .int .u64 0, .int .u64 0, .int .u64 (evn X), .int .u64 (c 112), .int .u64 (c 113), .int .u64 (c 114), .int .u64 (c 115), .int .i64 (c 116), .int .u64 (c 117)] : List Value).toArray 61 :: HP.blk b (rfv g F (.slice (some ⟨g1, o1, none⟩) 1 cap4) (.slice Aq F.q.length cq)).toArray 69 :: HP.slw (.slice (some ⟨g1, o1, none⟩) 1 cap4) 1 1 [.int .u16 (n : Nat)] :: HP.slw (.slice A1 0 c1) 1 0 [] :: HP.rg g (nSt c F.at_ 2) :: L))) (fun i_ x_ y_ => match i_ with | 7 => x_.grownBy y_ (spare (.slice Aq F.q.length cq)) | _ => (∀ L_, Heap w0 x_ L_ → Heap w0 y_ L_) ∧ GN x_ y_) (fun k_ v_ w_ => match k_ with
                    | 0 => v_ = .pointer (some ⟨b, 0, none⟩)
                    | 1 => v_ = .pointer (some ⟨b, 0, none⟩)
                    | 2 => v_ = .pointer (some ⟨b, 0, none⟩)
                    | 3 => v_ = .pointer (some ⟨b, 4, none⟩)
                    | 4 => v_ = .slice Aq F.q.length cq
                    | 5 => v_ = .agg #[.int .u64 F.at_, .int .u32 (n : Nat), .int .u32 (ev : Nat), .int .i64 2, .int .u64 0, .int .u64 0, .int .u64 (evn X), .int .u64 (c 112), .int .u64 (c 113), .int .u64 (c 114), .int .u64 (c 115), .int .i64 (c 116), .int .u64 (c 117)]
                    | 6 => ∃ kk : Nat, v_ = .slice (some ⟨kk, 0, none⟩) 1 1 ∧ W2.heap.size ≤ kk ∧ w_.heap[kk]? = some (.cells #[.int .u64 F.at_, .int .u32 (n : Nat), .int .u32 (ev : Nat), .int .i64 2, .int .u64 0, .int .u64 0, .int .u64 (evn X), .int .u64 (c 112), .int .u64 (c 113), .int .u64 (c 114), .int .u64 (c 115), .int .i64 (c 116), .int .u64 (c 117)] 61 (0, 0))
                    | 7 => Heap w0 w_ (HP.slw v_ 13 (F.q.length + 1) (itsC F.q ++ [.int .u64 F.at_, .int .u32 (n : Nat), .int .u32 (ev : Nat), .int .i64 2, .int .u64 0, .int .u64 0, .int .u64 (evn X), .int .u64 (c 112), .int .u64 (c 113), .int .u64 (c 114), .int .u64 (c 115), .int .i64 (c 116), .int .u64 (c 117)]) :: HP.blk x ([.int .u64 F.at_, .int .u32 (n : Nat), .int .u32 (ev : Nat), .int .i64 2, .int .u64 0, .int .u64 0, .int .u64 (evn X), .int .u64 (c 112), .int .u64 (c 113), .int .u64 (c 114), .int .u64 (c 115), .int .i64 (c 116), .int .u64 (c 117)] : List Value).toArray 61 :: HP.blk b (rfv g F (.slice (some ⟨g1, o1, none⟩) 1 cap4) (.slice Aq F.q.length cq)).toArray 69 :: HP.slw (.slice (some ⟨g1, o1, none⟩) 1 cap4) 1 1 [.int .u16 (n : Nat)] :: HP.slw (.slice A1 0 c1) 1 0 [] :: HP.rg g (nSt c F.at_ 2) :: L)
                    | 8 => v_ = .pointer (some ⟨b, 0, none⟩)
                    | _ => v_ = .pointer (some ⟨b, 4, none⟩)) fol (by kernel_rfl) ?_ ?_ (by decide) (n := 10) rfl rfl rfl (by kernel_rfl) ?_ ?_
                · exact ⟨hJ2.tail.drew, Nat.le_refl _, fun _ => hJ2.drew⟩
                · intro i_ k_ v_ w_ w2_ hne h1 hg
                  split at h1
                  all_goals first
                    | exact h1
                    | (obtain ⟨kk, e_, q_, r_⟩ := h1; split at hg; exact ⟨kk, e_, q_, (World.grownBy.block hg kk (lt_of_heap' r_) (fun c_ => by have := unhide Hsp_ _ c_.symm; omega)).trans r_⟩; exact ⟨kk, e_, q_, hg.2.heap r_⟩)
                    | (split at hg; exact absurd rfl hne; exact hg.1 _ h1)
                · intro vals
                  show wpX _ _ _ _ _ _ _ 0 (_ :: _) _
                  refine wpX_cons (xval (.pointer (some ⟨b, 0, none⟩)) (fun _ => ⟨fun _ h_ => h_, GN.refl _⟩) (by decide) fun fl_ w_ hJ hd => ?_) ?_
                  · exact ⟨by kernel_rfl, by kernel_rfl, rfl⟩
                  refine wpX_cons (xval (.pointer (some ⟨b, 0, none⟩)) (fun _ => ⟨fun _ h_ => h_, GN.refl _⟩) (by decide) fun fl_ w_ hJ hd => ?_) ?_
                  · exact ⟨by kernel_rfl, by kernel_rfl, rfl⟩
                  refine wpX_cons (xval (.pointer (some ⟨b, 0, none⟩)) (fun _ => ⟨fun _ h_ => h_, GN.refl _⟩) (by decide) fun fl_ w_ hJ hd => ?_) ?_
                  · have e1 : vals 1 = _ := hd 1 (by decide) (by kernel_rfl)
                    rw [e1]
                    exact ⟨by kernel_rfl, by kernel_rfl, rfl⟩
                  refine wpX_cons (xval (.pointer (some ⟨b, 4, none⟩)) (fun _ => ⟨fun _ h_ => h_, GN.refl _⟩) (by decide) fun fl_ w_ hJ hd => ?_) ?_
                  · have e2 : vals 2 = _ := hd 2 (by decide) (by kernel_rfl)
                    rw [e2]
                    exact ⟨by kernel_rfl, by kernel_rfl, rfl⟩
                  refine wpX_cons (xop (Instr.loadAt 67 (.pointer (some ⟨b, 4, none⟩))) (.slice Aq F.q.length cq) (fun _ => ⟨fun _ h_ => h_, GN.refl _⟩) (by decide) fun fl_ w_ hJ hd => ?_) ?_
                  · have e3 : vals 3 = _ := hd 3 (by decide) (by kernel_rfl)
                    rw [e3]
                    exact ⟨by kernel_rfl, by kernel_rfl, run_load1 (by kernel_rfl) (cell_blk (Heap.heap (Heap.f2 hJ.1)) 4).1, rfl⟩
                  refine wpX_cons (xop (Instr.loadAt 61 (.pointer (some ⟨x, 0, none⟩))) (.agg #[.int .u64 F.at_, .int .u32 (n : Nat), .int .u32 (ev : Nat), .int .i64 2, .int .u64 0, .int .u64 0, .int .u64 (evn X), .int .u64 (c 112), .int .u64 (c 113), .int .u64 (c 114), .int .u64 (c 115), .int .i64 (c 116), .int .u64 (c 117)]) (fun _ => ⟨fun _ h_ => h_, GN.refl _⟩) (by decide) fun fl_ w_ hJ hd => ?_) ?_
                  · exact ⟨by kernel_rfl, by kernel_rfl, run_loadAt_mid w_ x 0 61 [.int .u64 F.at_, .int .u32 (n : Nat), .int .u32 (ev : Nat), .int .i64 2, .int .u64 0, .int .u64 0, .int .u64 (evn X), .int .u64 (c 112), .int .u64 (c 113), .int .u64 (c 114), .int .u64 (c 115), .int .i64 (c 116), .int .u64 (c 117)] _ (range_blk (Heap.heap hJ.1) 0 13 _ rfl) Tryd.underlying61 rfl (by kernel_rfl), rfl⟩
                  refine wpX_cons (xmake (by decide) fun fl_ w_ hJ hd => ?_) ?_
                  · have e5 : vals 5 = _ := hd 5 (by decide) (by kernel_rfl)
                    rw [e5]
                    exact ⟨by kernel_rfl, _, w_.alloc (.cells #[.int .u64 F.at_, .int .u32 (n : Nat), .int .u32 (ev : Nat), .int .i64 2, .int .u64 0, .int .u64 0, .int .u64 (evn X), .int .u64 (c 112), .int .u64 (c 113), .int .u64 (c 114), .int .u64 (c 115), .int .i64 (c 116), .int .u64 (c 117)] 61), (by kernel_rfl : _ = Result.ok (Next.value (.slice (some ⟨w_.heap.size, 0, none⟩) 1 1)) _), ⟨hJ.1.alloc _, Nat.le_trans hJ.2.1 (by simp), fun h_ => (hJ.2.2 h_).alloc _⟩, ⟨fun _ h_ => h_.alloc _, grown_b1 _ _⟩, w_.heap.size, rfl, hJ.2.1, heap_new' _ _⟩
                  refine wpX_cons (xevent rfl fun w_ hJ hd => ?_) ?_
                  · have e4 : vals 4 = _ := hd 4 (by decide) (by kernel_rfl)
                    have e6 : ∃ kk : Nat, (vals 6) = .slice (some ⟨kk, 0, none⟩) 1 1 ∧ W2.heap.size ≤ kk ∧ w_.heap[kk]? = some (.cells #[.int .u64 F.at_, .int .u32 (n : Nat), .int .u32 (ev : Nat), .int .i64 2, .int .u64 0, .int .u64 0, .int .u64 (evn X), .int .u64 (c 112), .int .u64 (c 113), .int .u64 (c 114), .int .u64 (c 115), .int .i64 (c 116), .int .u64 (c 117)] 61 (0, 0)) := hd 6 (by decide) (by kernel_rfl)
                    rw [e4]
                    obtain ⟨kk, e_, q_, r_⟩ := e6
                    rw [e_]
                    have hB_ := hJ.2.2 rfl
                    obtain ⟨v', w', hr_, hsl_, hgr_, hblk_, _⟩ := run_append_sl (P := Tryd.prog) w_ 67 67 61 j0 _ 13 96 Tryd.underlying67 hj0 hy0 hy1 hy2 rfl hB_.slw (sl_blk (n := 1) (sz := 13) (xs := [.int .u64 F.at_, .int .u32 (n : Nat), .int .u32 (ev : Nat), .int .i64 2, .int .u64 0, .int .u64 0, .int .u64 (evn X), .int .u64 (c 112), .int .u64 (c 113), .int .u64 (c 114), .int .u64 (c 115), .int .i64 (c 116), .int .u64 (c 117)]) r_ rfl) (itl_cell ⟨F.at_, (n : Nat), (ev : Nat), 2, 0, 0, evn X, c⟩) (by omega) (by omega)
                    have hA_ := hB_.appendw hsl_ hgr_ hblk_
                    exact ⟨by kernel_rfl, v', w', Eq.trans (b := Sem.run Tryd.prog (do let r ← Builtin.append_ #[67, 67] 67 #[.slice Aq F.q.length cq, .slice (some ⟨kk, 0, none⟩) 1 1]; pure (Next.value r)) w_) (by kernel_rfl) (run_val hr_), ⟨hA_.tail, Nat.le_trans hJ.2.1 hgr_.size, fun h_ => by cases h_⟩, hgr_, hA_⟩
                  refine wpX_cons (xval (.pointer (some ⟨b, 0, none⟩)) (fun _ => ⟨fun _ h_ => h_, GN.refl _⟩) (by decide) fun fl_ w_ hJ hd => ?_) ?_
                  · have e0 : vals 0 = _ := hd 0 (by decide) (by kernel_rfl)
                    rw [e0]
                    exact ⟨by kernel_rfl, by kernel_rfl, rfl⟩
                  refine wpX_cons (xval (.pointer (some ⟨b, 4, none⟩)) (fun _ => ⟨fun _ h_ => h_, GN.refl _⟩) (by decide) fun fl_ w_ hJ hd => ?_) wpX_nil
                  · have e8 : vals 8 = _ := hd 8 (by decide) (by kernel_rfl)
                    rw [e8]
                    exact ⟨by kernel_rfl, by kernel_rfl, rfl⟩
                · intro vals w_ hJ hf
                  have e0 : vals 0 = _ := hf 0 (by decide)
                  have e1 : vals 1 = _ := hf 1 (by decide)
                  have e2 : vals 2 = _ := hf 2 (by decide)
                  have e3 : vals 3 = _ := hf 3 (by decide)
                  have e4 : vals 4 = _ := hf 4 (by decide)
                  have e5 : vals 5 = _ := hf 5 (by decide)
                  have e8 : vals 8 = _ := hf 8 (by decide)
                  have e9 : vals 9 = _ := hf 9 (by decide)
                  have e7 : Heap w0 w_ (HP.slw (vals 7) 13 (F.q.length + 1) (itsC F.q ++ [.int .u64 F.at_, .int .u32 (n : Nat), .int .u32 (ev : Nat), .int .i64 2, .int .u64 0, .int .u64 0, .int .u64 (evn X), .int .u64 (c 112), .int .u64 (c 113), .int .u64 (c 114), .int .u64 (c 115), .int .i64 (c 116), .int .u64 (c 117)]) :: HP.blk x ([.int .u64 F.at_, .int .u32 (n : Nat), .int .u32 (ev : Nat), .int .i64 2, .int .u64 0, .int .u64 0, .int .u64 (evn X), .int .u64 (c 112), .int .u64 (c 113), .int .u64 (c 114), .int .u64 (c 115), .int .i64 (c 116), .int .u64 (c 117)] : List Value).toArray 61 :: HP.blk b (rfv g F (.slice (some ⟨g1, o1, none⟩) 1 cap4) (.slice Aq F.q.length cq)).toArray 69 :: HP.slw (.slice (some ⟨g1, o1, none⟩) 1 cap4) 1 1 [.int .u16 (n : Nat)] :: HP.slw (.slice A1 0 c1) 1 0 [] :: HP.rg g (nSt c F.at_ 2) :: L) := hf 7 (by decide)
                  show Oper.wp _ _ (fillG vals 0 (_ :: _ :: _ :: _ :: _ :: _ :: _ :: _ :: _ :: _ :: []) _) _ _ _
                  simp only [fillG, Nat.zero_add, Nat.reduceAdd, e0, e1, e2, e3, e4, e5, e8, e9, Act.put, List.setIfInBounds_toArray, List.set_cons_succ, List.set_cons_zero]
                  clear e0 e1 e2 e3 e4 e5 e8 e9 hf
                  generalize vals 6 = v6 at *
                  generalize vals 7 = v7 at *
                  obtain ⟨A2, cap2, rfl, _⟩ := (Heap.slw e7).parts
                  have b5 := cell_blk (Heap.heap (Heap.f3 e7)) 4
                  refine wp_last_skip (w' := w_.setCell ⟨b, 4, none⟩ (.slice A2 (F.q.length + 1) cap2)) (m := Instr.storeAt 67 (.pointer (some ⟨b, 4, none⟩)) (.slice A2 (F.q.length + 1) cap2)) (by kernel_rfl) (run_store1 (by kernel_rfl) rfl rfl b5.1 b5.2) ?_
                  show Exit.then _ _ Exit.normal (Act.put ⟨_, _⟩ none _) _
                  simp only [Act.put]
                  have hJ3 := (Heap.f3 e7).setl 4 (.slice A2 (F.q.length + 1) cap2)
                  clear b5 e7 hJ hJ2 Hsp_
                  generalize World.setCell w_ ⟨b, 4, none⟩ (.slice A2 (F.q.length + 1) cap2) = W3 at hJ3 ⊢
                  have x6 := (cell_blk (Heap.heap (Heap.f3 hJ3)) 6).1
                  obtain ⟨b1, b1f⟩ := (cell_blk (Heap.heap hJ3) 1)
                  obtain ⟨b2, b2f⟩ := (cell_blk (Heap.heap hJ3) 2)
                  have x6 : W3.cell? ⟨x, 6, none⟩ = some (.int .u64 (evn X)) := x6
                  have b1 : W3.cell? ⟨b, 1, none⟩ = some (.int .u64 F.at_) := b1
                  have b2 : W3.cell? ⟨b, 2, none⟩ = some (.slice (some ⟨g1, o1, none⟩) 1 cap4) := b2
                  have hbl := lt_of_heap' (Heap.heap hJ3)
                  have hxl := lt_of_heap' (Heap.heap (Heap.f3 hJ3))
                  have hJ4 := hide ((hJ3.setl 1 (.int .u64 (evn X))).setl 2 (.slice none 0 0))
                  clear hJ3
                  go_wp2
                  go_ret
                  refine ⟨rfl, ?_⟩
                  rw [← unhide HF2, ← unhide Hc2, show giveF F c n = wholeF F c n (exN n) 2 from by unfold giveF; rw [unhide Hcv, unhide Hs, unhide Ha, unhide H00]; rfl, show giveC F c n = nSt c F.at_ 2 from by unfold giveC; rw [unhide Hcv, unhide Hs, unhide Ha, unhide H00]; rfl, unhide Hev]
                  refine Heap.rfc [] (.slice none 0 0) (.slice A2 (F.q.length + 1) cap2) (fun _ => rfl) ?_
                  unfold RB wholeF wItem
                  rw [unhide HX, itsC_snoc, List.length_append]
                  exact (Heap.sort (L1 := [_, _, _, _, _, _, _]) (L2 := [_, _, _, _, _, _, _]) (M := L) ((unhide hJ4).noneS (sz := 1)) [3, 4, 5, 1, 0, 2, 6] rfl rfl (by decide)).tail.tail.tail

set_option maxRecDepth 100000 in
set_option maxHeartbeats 4000000 in
theorem giveR_two (hI : FI F) (hT : Tab w0) (h : Heap w0 w (HP.rf b g F :: HP.rg g c :: L)) (n : Nat) (hn : n < 65536) (hs : F.some = true) :
    Calls Tryd.prog 21 #[.pointer (some ⟨b, 0, none⟩), .int .u16 (n : Nat)] w fun r w' => r = .returned (.bool (canF F)) ∧ Heap w0 w' (HP.rf b g (giveF F c n) :: HP.rg g (giveC F c n) :: L) := by
  obtain ⟨i0, hi0, hz0, hz1, hz2⟩ := info_parts infoH
  obtain ⟨j0, hj0, hy0, hy1, hy2⟩ := info_parts info61
  have hcall := hide (wantR_f hI h)
  have H0 := hide h
  obtain ⟨cv, hcv⟩ : ∃ cv, canF F = cv := ⟨_, rfl⟩
  rw [hcv] at hcall
  rw [hcv]
  obtain ⟨F2, hF2⟩ : ∃ F2, giveF F c n = F2 := ⟨_, rfl⟩
  obtain ⟨c2, hc2⟩ : ∃ c2, giveC F c n = c2 := ⟨_, rfl⟩
  rw [hF2, hc2]
  have HF2 := hide hF2
  have Hc2 := hide hc2
  have HT := hide hT
  have HI := hide hI
  clear hF2 hc2 hT hI h
  go_enter Tryd.func21, Tryd.ntmps21
  go_wp2_with fail
  refine (unhide hcall).mono ?_
  rintro r w1 ⟨rfl, hg1⟩
  have H0 := hide ((unhide H0).grown hg1)
  clear hcall hg1
  cases cv with
  | false =>
    have Hcv := hide hcv
    clear hcv
    go_wp2
    go_ret
    refine ⟨rfl, ?_⟩
    rw [← unhide HF2, ← unhide Hc2, show giveF F c n = F from by unfold giveF; rw [unhide Hcv]; rfl, show giveC F c n = c from by unfold giveC; rw [unhide Hcv]; rfl]
    exact unhide H0
  | true =>
    have hlt := can_len hcv
    have Hcv := hide hcv
    clear hcv
    obtain ⟨hs0, A1, c1, Aq, cq, ho, hh⟩ := (unhide H0).rfo
    have hst := can_stop (unhide Hcv)
    obtain rfl := ho hst
    have Hst := hide hst
    clear ho hst
    clear H0
    obtain ⟨f, hf⟩ : ∃ f, F.first.toNat = f := ⟨_, rfl⟩
    have hf1 := (unhide HI).first
    have hlow := (unhide HI).low hs
    have hff : F.first = (f : Nat) := by omega
    rw [hf] at hlow
    have e1 : hlf F = [f] := by unfold hlf; rw [hs, hf]; rfl
    have hfb : f < 65536 := by omega
    unfold RB at hh
    rw [e1] at hh
    have Hs := hide hs
    have Hff := hide hff
    clear e1 hs hf hff hf1
    have J0 := (hh.emptyW (sz := 1) 32)
    obtain ⟨ke, hke⟩ : ∃ k, w1.heap.size = k := ⟨_, rfl⟩
    rw [hke] at J0
    obtain ⟨W2, hW2⟩ : ∃ W2, w1.alloc (.cells #[] 32) = W2 := ⟨_, rfl⟩
    rw [hW2] at J0
    have d2 : W2.cell? ⟨b, 2, none⟩ = some (.slice A1 1 c1) := (cell_blk (Heap.heap J0.f2) 2).1
    have hbl := lt_of_heap' (Heap.heap J0.f2)
    have HJ := hide J0
    clear hh J0
    go_wp2_with (at_builtin; refine wpList_append_sl (n := 0) (m := 1) rfl _ _ 23 rfl 32 i0 _ 1 2 Tryd.underlying23 hi0 hz0 hz1 hz2 rfl rfl rfl (unhide HJ).slw (unhide HJ).f3.slw (hvs_one _) (by omega) (by omega) ?_; intro v' W3 hsl hgr hblk hsp; rw [Nat.zero_add, List.nil_append] at hsl; obtain ⟨A3, cap3, rfl, _⟩ := hsl.parts; have hA := (unhide HJ).appendw hsl hgr hblk; clear HJ hsl hgr hblk hsp; refine unhide ?_)
    clear d2 hbl hke hW2
    have HJ := hide hA
    clear hA
    refine hide ?_
    go_wp2_with (at_builtin; refine wpList_append_sl (n := 1) (m := 1) rfl _ _ 23 rfl 32 i0 _ 1 2 Tryd.underlying23 hi0 hz0 hz1 hz2 rfl rfl rfl ((unhide HJ).slw.alloc _) (Sl.single _ 32 (.int .u16 (n : Nat)) (by simp)) (by simp; rfl) (by omega) (by omega) ?_; intro v' W4 hsl hgr hblk hsp; obtain ⟨A4, cap4, rfl, _⟩ := hsl.parts; have hA := ((unhide HJ).alloc _).appendw hsl hgr hblk; clear HJ hsl hgr hblk hsp; refine unhide ?_)
    have hbl := lt_of_heap' (Heap.heap hA.f2)
    have d2f := (cell_blk (Heap.heap hA.f2) 2).2
    have d2 : W4.cell? ⟨b, 2, none⟩ = some (.slice A1 1 c1) := (cell_blk (Heap.heap hA.f2) 2).1
    have h5 := hA.f2.setl 2 (.slice A4 (1 + 1) cap4)
    have H5 := hide h5
    clear hA h5
    refine hide ?_
    go_upto_region 5 with fail
    have h5 := unhide H5
    generalize W4.setCell ⟨b, 2, none⟩ (.slice A4 (1 + 1) cap4) = W5 at h5 ⊢
    clear H5 d2 d2f hbl
    obtain ⟨g1, o1, cap3, hv1, _⟩ := h5.f2.slw.addr (by omega)
    obtain ⟨hA, hcc⟩ : A4 = some ⟨g1, o1, none⟩ ∧ True := by
      injection hv1 with h1 _ _
      exact ⟨h1, trivial⟩
    subst hA
    have hx0 := h5.f2.slw.at_ (j := 0) (by omega)

    have hx : W5.cell? ⟨g1, o1, none⟩ = some (.int .u16 (f : Nat)) := hx0.2.1
    have hg1 := hx0.1
    have d2 : W5.cell? ⟨b, 2, none⟩ = some (.slice (some ⟨g1, o1, none⟩) 2 cap4) := (cell_blk (Heap.heap h5) 2).1
    have hbl := lt_of_heap' (Heap.heap h5)
    have hSh := hide (rshort_any f hfb W5)
    have H5 := hide h5
    clear hv1 hx0 h5
    rw [← short_eq f hfb, hlow, show ((3 : Nat) != 3) = false from rfl] at hSh
    clear hlow
    go_wp2_with fail
    refine (unhide hSh).mono ?_
    rintro r W6 ⟨rfl, hg⟩
    have h5 := (unhide H5).grown hg
    have d1 : W6.cell? ⟨b, 1, none⟩ = some (.int .u64 F.at_) := (cell_blk (Heap.heap h5) 1).1
    have d2 : W6.cell? ⟨b, 2, none⟩ = some (.slice (some ⟨g1, o1, none⟩) 2 cap4) := (cell_blk (Heap.heap h5) 2).1
    have hbl := lt_of_heap' (Heap.heap h5)
    have H5 := hide h5
    clear h5 hg hSh hx hg1
    go_upto_region 8 with fail
    refine wp_region_E (fun w_ => GN W6 w_) GN (fun k_ v_ w_ => match k_ with
        | 0 => v_ = .pointer (some ⟨b, 0, none⟩)
        | 1 => v_ = .pointer (some ⟨b, 0, none⟩)
        | 2 => v_ = .pointer (some ⟨b, 1, none⟩)
        | 3 => v_ = .int .u64 F.at_
        | 4 => v_ = .pointer (some ⟨b, 0, none⟩)
        | 5 => v_ = .pointer (some ⟨b, 0, none⟩)
        | 6 => v_ = .pointer (some ⟨b, 2, none⟩)
        | 7 => v_ = .slice (some ⟨g1, o1, none⟩) 2 cap4
        | 8 => v_ = .int .i64 2
        | 9 => v_ = .int .i64 4
        | 10 => v_ = .agg #[.int .u64 F.at_, .int .u32 0, .int .u32 0, .int .i64 4, .int .u64 0, .int .u64 0, .int .u64 0, .int .u64 0, .int .u64 0, .int .u64 0, .int .u64 0, .int .i64 0, .int .u64 0]
        | _ => ∃ x, v_ = .pointer (some ⟨x, 0, none⟩) ∧ W6.heap.size ≤ x ∧ w_.heap[x]? = some (.cells #[.int .u64 0, .int .u32 0, .int .u32 0, .int .i64 0, .int .u64 0, .int .u64 0, .int .u64 0, .int .u64 0, .int .u64 0, .int .u64 0, .int .u64 0, .int .i64 0, .int .u64 0] 61 (0, 0))) fol (by kernel_rfl) ?_ ?_ (n := 12) rfl rfl rfl (by kernel_rfl) ?_ ?_
    · exact (GN.refl W6).drew
    · intro k_ v_ w_ w2_ h1 hg
      split at h1 <;> first | exact h1 | (obtain ⟨kk, e_, q_, r_⟩ := h1; exact ⟨kk, e_, q_, GN.heap hg r_⟩)
    · intro vals
      show wpG _ _ _ _ _ _ 0 (_ :: _) _
      refine wpG_cons (gval (.pointer (some ⟨b, 0, none⟩)) GN.refl fun w_ hJ hd => ?_) ?_
      · exact ⟨by kernel_rfl, by kernel_rfl, rfl⟩
      refine wpG_cons (gval (.pointer (some ⟨b, 0, none⟩)) GN.refl fun w_ hJ hd => ?_) ?_
      · have e0 : vals 0 = _ := hd 0 (by decide) (by kernel_rfl)
        rw [e0]
        exact ⟨by kernel_rfl, by kernel_rfl, rfl⟩
      refine wpG_cons (gval (.pointer (some ⟨b, 1, none⟩)) GN.refl fun w_ hJ hd => ?_) ?_
      · have e1 : vals 1 = _ := hd 1 (by decide) (by kernel_rfl)
        rw [e1]
        exact ⟨by kernel_rfl, by kernel_rfl, rfl⟩
      refine wpG_cons (gop (Instr.loadAt 22 (.pointer (some ⟨b, 1, none⟩))) (.int .u64 F.at_) GN.refl fun w_ hJ hd => ?_) ?_
      · have e2 : vals 2 = _ := hd 2 (by decide) (by kernel_rfl)
        rw [e2]
        exact ⟨by kernel_rfl, by kernel_rfl, run_load1 (by kernel_rfl) (cell_GN hJ d1), rfl⟩
      refine wpG_cons (gval (.pointer (some ⟨b, 0, none⟩)) GN.refl fun w_ hJ hd => ?_) ?_
      · exact ⟨by kernel_rfl, by kernel_rfl, rfl⟩
      refine wpG_cons (gval (.pointer (some ⟨b, 0, none⟩)) GN.refl fun w_ hJ hd => ?_) ?_
      · have e4 : vals 4 = _ := hd 4 (by decide) (by kernel_rfl)
        rw [e4]
        exact ⟨by kernel_rfl, by kernel_rfl, rfl⟩
      refine wpG_cons (gval (.pointer (some ⟨b, 2, none⟩)) GN.refl fun w_ hJ hd => ?_) ?_
      · have e5 : vals 5 = _ := hd 5 (by decide) (by kernel_rfl)
        rw [e5]
        exact ⟨by kernel_rfl, by kernel_rfl, rfl⟩
      refine wpG_cons (gop (Instr.loadAt 23 (.pointer (some ⟨b, 2, none⟩))) (.slice (some ⟨g1, o1, none⟩) 2 cap4) GN.refl fun w_ hJ hd => ?_) ?_
      · have e6 : vals 6 = _ := hd 6 (by decide) (by kernel_rfl)
        rw [e6]
        exact ⟨by kernel_rfl, by kernel_rfl, run_load1 (by kernel_rfl) (cell_GN hJ d2), rfl⟩
      refine wpG_cons (gval (.int .i64 2) GN.refl fun w_ hJ hd => ?_) ?_
      · have e7 : vals 7 = _ := hd 7 (by decide) (by kernel_rfl)
        rw [e7]
        exact ⟨by kernel_rfl, by kernel_rfl, rfl⟩
      refine wpG_cons (gval (.int .i64 4) GN.refl fun w_ hJ hd => ?_) ?_
      · have e8 : vals 8 = _ := hd 8 (by decide) (by kernel_rfl)
        rw [e8]
        exact ⟨by kernel_rfl, by kernel_rfl, rfl⟩
      refine wpG_cons (gval (.agg #[.int .u64 F.at_, .int .u32 0, .int .u32 0, .int .i64 4, .int .u64 0, .int .u64 0, .int .u64 0, .int .u64 0, .int .u64 0, .int .u64 0, .int .u64 0, .int .i64 0, .int .u64 0]) GN.refl fun w_ hJ hd => ?_) ?_
      · have e3 : vals 3 = _ := hd 3 (by decide) (by kernel_rfl)
        have e9 : vals 9 = _ := hd 9 (by decide) (by kernel_rfl)
        rw [e3, e9]
        exact ⟨by kernel_rfl, by kernel_rfl, rfl⟩
      refine wpG_cons (gmake fun w_ hJ hd => ?_) wpG_nil
      · exact ⟨by kernel_rfl, _, _, Eq.refl _, hJ.alloc _, (GN.refl _).alloc _, w_.heap.size, rfl, hJ.size, heap_new' _ _⟩
    · intro vals w_ hJ hf
      have e0 : vals 0 = _ := hf 0 (by decide)
      have e1 : vals 1 = _ := hf 1 (by decide)
      have e2 : vals 2 = _ := hf 2 (by decide)
      have e3 : vals 3 = _ := hf 3 (by decide)
      have e4 : vals 4 = _ := hf 4 (by decide)
      have e5 : vals 5 = _ := hf 5 (by decide)
      have e6 : vals 6 = _ := hf 6 (by decide)
      have e7 : vals 7 = _ := hf 7 (by decide)
      have e8 : vals 8 = _ := hf 8 (by decide)
      have e9 : vals 9 = _ := hf 9 (by decide)
      have e10 : vals 10 = _ := hf 10 (by decide)
      have e11 : ∃ x, (vals 11) = .pointer (some ⟨x, 0, none⟩) ∧ W6.heap.size ≤ x ∧ w_.heap[x]? = some (.cells #[.int .u64 0, .int .u32 0, .int .u32 0, .int .i64 0, .int .u64 0, .int .u64 0, .int .u64 0, .int .u64 0, .int .u64 0, .int .u64 0, .int .u64 0, .int .i64 0, .int .u64 0] 61 (0, 0)) := hf 11 (by decide)
      show Oper.wp _ _ (fillG vals 0 (_ :: _ :: _ :: _ :: _ :: _ :: _ :: _ :: _ :: _ :: _ :: _ :: []) _) _ _ _
      simp only [fillG, Nat.zero_add, Nat.reduceAdd, e0, e1, e2, e3, e4, e5, e6, e7, e8, e9, e10, Act.put, List.setIfInBounds_toArray, List.set_cons_succ, List.set_cons_zero]
      clear e0 e1 e2 e3 e4 e5 e6 e7 e8 e9 e10 hf
      generalize vals 11 = v11 at *
      obtain ⟨x, rfl, hx0, hxh⟩ := e11
      have hK := (unhide H5).freshBlk hJ hxh hx0
      refine wp_store_mid 61 (.tmp 8) (.tmp 59) rfl x 0 #[.int .u64 F.at_, .int .u32 0, .int .u32 0, .int .i64 4, .int .u64 0, .int .u64 0, .int .u64 0, .int .u64 0, .int .u64 0, .int .u64 0, .int .u64 0, .int .i64 0, .int .u64 0] rfl rfl (there_blk (xs := [_, _, _, _, _, _, _, _, _, _, _, _, _]) hxh (by simp)) (by kernel_rfl) (by kernel_rfl) ?_
      show Exit.then _ _ Exit.normal (Act.put ⟨_, _⟩ none _) _
      simp only [Act.put]
      have hJ1 := (Heap.sets [.int .u64 F.at_, .int .u32 0, .int .u32 0, .int .i64 4, .int .u64 0, .int .u64 0, .int .u64 0, .int .u64 0, .int .u64 0, .int .u64 0, .int .u64 0, .int .i64 0, .int .u64 0] (xs := [_, _, _, _, _, _, _, _, _, _, _, _, _]) hK 0)
      rw [setL_all _ _ (by rfl)] at hJ1
      clear hK hxh hJ hx0 d1 d2 hbl H5
      generalize w_.setCells x 0 [.int .u64 F.at_, .int .u32 0, .int .u32 0, .int .i64 4, .int .u64 0, .int .u64 0, .int .u64 0, .int .u64 0, .int .u64 0, .int .u64 0, .int .u64 0, .int .i64 0, .int .u64 0] = W7 at hJ1 ⊢
      have H7 := hide hJ1
      clear hJ1
      go_wp2_with fail
      go_loopw [9] (fun s wr => ∃ (i : Nat) (v : Int), s = .int .i64 i ∧ ((i = 0 ∧ v = 0) ∨ (i = 1 ∧ v = f) ∨ (i = 2 ∧ v = ((n : Nat) * 65536 + (f : Nat)))) ∧ Heap w0 wr (HP.blk x ([.int .u64 F.at_, .int .u32 v, .int .u32 0, .int .i64 4, .int .u64 0, .int .u64 0, .int .u64 0, .int .u64 0, .int .u64 0, .int .u64 0, .int .u64 0, .int .i64 0, .int .u64 0] : List Value).toArray 61 :: HP.blk b (rfv g F (.slice (some ⟨g1, o1, none⟩) 2 cap4) (.slice Aq F.q.length cq)).toArray 69 :: HP.slw (.slice (some ⟨g1, o1, none⟩) 2 cap4) 1 2 [.int .u16 (f : Nat), .int .u16 (n : Nat)] :: HP.slw (.slice A1 1 c1) 1 1 [.int .u16 (f : Nat)] :: HP.slw (.slice Aq F.q.length cq) 13 F.q.length (itsC F.q) :: HP.rg g c :: L)) (fun s _ => 2 - (intOf s).toNat)
      case atStart => exact ⟨0, 0, rfl, .inl ⟨rfl, rfl⟩, unhide H7⟩
      case round =>
        clear H7
        obtain ⟨i, v, rfl, hc, hJ⟩ := hrel
        have d2 : wr.cell? ⟨b, 2, none⟩ = some (.slice (some ⟨g1, o1, none⟩) 2 cap4) := (cell_blk (Heap.heap hJ.f2) 2).1
        have hbl := lt_of_heap' (Heap.heap hJ.f2)
        rcases hc with ⟨rfl, rfl⟩ | ⟨rfl, rfl⟩ | ⟨rfl, rfl⟩
        · have hhb := hfb
          have Hx1 : Hid (wr.cell? ⟨x, 1, none⟩ = some (.int .u32 0)) := hide (cell_blk (Heap.heap hJ) 1).1
          have Hd2 := hide d2
          have Hh0 : Hid (wr.cell? ⟨g1, o1 + 0 * 1, none⟩ = some (.int .u16 (f : Nat))) := hide ((hJ.f3.slw.at_ (j := 0) (by omega)).2.1)
          have H := hide hJ
          clear hJ
          go_upto_region 12 with fail
          refine wp_region_E (fun w_ => GN wr w_) GN (fun k_ v_ w_ => match k_ with
              | 0 => v_ = .pointer (some ⟨x, 0 + 1, none⟩)
              | 1 => v_ = .int .u32 0
              | 2 => v_ = .pointer (some ⟨b, 0, none⟩)
              | 3 => v_ = .pointer (some ⟨b, 0, none⟩)
              | 4 => v_ = .pointer (some ⟨b, 0 + 2, none⟩)
              | 5 => v_ = .slice (some ⟨g1, o1, none⟩) 2 cap4
              | 6 => v_ = .int .i64 0
              | 7 => v_ = .pointer (some ⟨g1, o1 + 0 * 1, none⟩)
              | 8 => v_ = .int .u16 (f : Nat)
              | 9 => v_ = .int .u32 (f : Nat)
              | 10 => v_ = .int .i64 0
              | 11 => v_ = .int .i64 0
              | 12 => v_ = .int .u32 (f : Nat)
              | 13 => v_ = .int .u32 (0 + (f : Nat))
              | _ => v_ = .pointer (some ⟨x, 0 + 1, none⟩)) fol (by kernel_rfl) ?_ ?_ (n := 15) rfl rfl rfl (by kernel_rfl) ?_ ?_
          · exact (GN.refl wr).drew
          · intro k_ v_ w_ w2_ h1 hg
            split at h1 <;> exact h1
          · intro vals
            show wpG _ _ _ _ _ _ 0 (_ :: _) _
            refine wpG_cons (gval (.pointer (some ⟨x, 0 + 1, none⟩)) GN.refl fun w_ hJ hd => ?_) ?_
            · exact ⟨by kernel_rfl, by kernel_rfl, rfl⟩
            refine wpG_cons (gop (Instr.loadAt 33 (.pointer (some ⟨x, 0 + 1, none⟩))) (.int .u32 0) GN.refl fun w_ hJ hd => ?_) ?_
            · have e0 : vals 0 = _ := hd 0 (by decide) (by kernel_rfl)
              rw [e0]
              exact ⟨by kernel_rfl, by kernel_rfl, run_load1 (by kernel_rfl) (cell_GN hJ (unhide Hx1)), rfl⟩
            refine wpG_cons (gval (.pointer (some ⟨b, 0, none⟩)) GN.refl fun w_ hJ hd => ?_) ?_
            · exact ⟨by kernel_rfl, by kernel_rfl, rfl⟩
            refine wpG_cons (gval (.pointer (some ⟨b, 0, none⟩)) GN.refl fun w_ hJ hd => ?_) ?_
            · have e2 : vals 2 = _ := hd 2 (by decide) (by kernel_rfl)
              rw [e2]
              exact ⟨by kernel_rfl, by kernel_rfl, rfl⟩
            refine wpG_cons (gval (.pointer (some ⟨b, 0 + 2, none⟩)) GN.refl fun w_ hJ hd => ?_) ?_
            · have e3 : vals 3 = _ := hd 3 (by decide) (by kernel_rfl)
              rw [e3]
              exact ⟨by kernel_rfl, by kernel_rfl, rfl⟩
            refine wpG_cons (gop (Instr.loadAt 23 (.pointer (some ⟨b, 0 + 2, none⟩))) (.slice (some ⟨g1, o1, none⟩) 2 cap4) GN.refl fun w_ hJ hd => ?_) ?_
            · have e4 : vals 4 = _ := hd 4 (by decide) (by kernel_rfl)
              rw [e4]
              exact ⟨by kernel_rfl, by kernel_rfl, run_load1 (by kernel_rfl) (cell_GN hJ (unhide Hd2)), rfl⟩
            refine wpG_cons (gval (.int .i64 0) GN.refl fun w_ hJ hd => ?_) ?_
            · exact ⟨by kernel_rfl, by kernel_rfl, rfl⟩
            refine wpG_cons (gop (Instr.indexAt 23 (.slice (some ⟨g1, o1, none⟩) 2 cap4) (.int .i64 ((0 : Nat) : Int))) (.pointer (some ⟨g1, o1 + 0 * 1, none⟩)) GN.refl fun w_ hJ hd => ?_) ?_
            · have e5 : vals 5 = _ := hd 5 (by decide) (by kernel_rfl)
              have e6 : vals 6 = _ := hd 6 (by decide) (by kernel_rfl)
              rw [e5, e6]
              exact ⟨by kernel_rfl, by kernel_rfl, run_ixat 23 32 1 Tryd.underlying23 (by kernel_rfl) g1 o1 2 cap4 0 (by omega) w_, rfl⟩
            refine wpG_cons (gop (Instr.loadAt 32 (.pointer (some ⟨g1, o1 + 0 * 1, none⟩))) (.int .u16 (f : Nat)) GN.refl fun w_ hJ hd => ?_) ?_
            · have e7 : vals 7 = _ := hd 7 (by decide) (by kernel_rfl)
              rw [e7]
              exact ⟨by kernel_rfl, by kernel_rfl, run_load1 (by kernel_rfl) (cell_GN hJ (unhide Hh0)), rfl⟩
            refine wpG_cons (gop (convert 32 33 (.int .u16 (f : Nat))) (.int .u32 (f : Nat)) GN.refl fun w_ hJ hd => ?_) ?_
            · have e8 : vals 8 = _ := hd 8 (by decide) (by kernel_rfl)
              rw [e8]
              exact ⟨by kernel_rfl, by kernel_rfl, run_cv32 f hhb w_, rfl⟩
            refine wpG_cons (gval (.int .i64 0) GN.refl fun w_ hJ hd => ?_) ?_
            · exact ⟨by kernel_rfl, by kernel_rfl, rfl⟩
            refine wpG_cons (gval (.int .i64 0) GN.refl fun w_ hJ hd => ?_) ?_
            · have e10 : vals 10 = _ := hd 10 (by decide) (by kernel_rfl)
              rw [e10]
              exact ⟨by kernel_rfl, by kernel_rfl, rfl⟩
            refine wpG_cons (gop (binOp .shl 33 (.int .u32 (f : Nat)) (.int .i64 0)) (.int .u32 (f : Nat)) GN.refl fun w_ hJ hd => ?_) ?_
            · have e9 : vals 9 = _ := hd 9 (by decide) (by kernel_rfl)
              have e11 : vals 11 = _ := hd 11 (by decide) (by kernel_rfl)
              rw [e9, e11]
              exact ⟨by kernel_rfl, by kernel_rfl, run_shl0 f hhb w_, rfl⟩
            refine wpG_cons (gop (binOp .add 33 (.int .u32 0) (.int .u32 (f : Nat))) (.int .u32 (0 + (f : Nat))) GN.refl fun w_ hJ hd => ?_) ?_
            · have e1 : vals 1 = _ := hd 1 (by decide) (by kernel_rfl)
              have e12 : vals 12 = _ := hd 12 (by decide) (by kernel_rfl)
              rw [e1, e12]
              exact ⟨by kernel_rfl, by kernel_rfl, run_add33 0 (f : Nat) (by omega) w_, rfl⟩
            refine wpG_cons (gval (.pointer (some ⟨x, 0 + 1, none⟩)) GN.refl fun w_ hJ hd => ?_) wpG_nil
            · exact ⟨by kernel_rfl, by kernel_rfl, rfl⟩
          · intro vals w_ hJ hf
            have e0 : vals 0 = _ := hf 0 (by decide)
            have e1 : vals 1 = _ := hf 1 (by decide)
            have e2 : vals 2 = _ := hf 2 (by decide)
            have e3 : vals 3 = _ := hf 3 (by decide)
            have e4 : vals 4 = _ := hf 4 (by decide)
            have e5 : vals 5 = _ := hf 5 (by decide)
            have e6 : vals 6 = _ := hf 6 (by decide)
            have e7 : vals 7 = _ := hf 7 (by decide)
            have e8 : vals 8 = _ := hf 8 (by decide)
            have e9 : vals 9 = _ := hf 9 (by decide)
            have e10 : vals 10 = _ := hf 10 (by decide)
            have e11 : vals 11 = _ := hf 11 (by decide)
            have e12 : vals 12 = _ := hf 12 (by decide)
            have e13 : vals 13 = _ := hf 13 (by decide)
            have e14 : vals 14 = _ := hf 14 (by decide)
            show Oper.wp _ _ (fillG vals 0 (_ :: _ :: _ :: _ :: _ :: _ :: _ :: _ :: _ :: _ :: _ :: _ :: _ :: _ :: _ :: []) _) _ _ _
            simp only [fillG, Nat.zero_add, Nat.reduceAdd, e0, e1, e2, e3, e4, e5, e6, e7, e8, e9, e10, e11, e12, e13, e14, Act.put, List.setIfInBounds_toArray, List.set_cons_succ, List.set_cons_zero]
            clear e0 e1 e2 e3 e4 e5 e6 e7 e8 e9 e10 e11 e12 e13 e14 hf
            have h9 := (unhide H).grown hJ
            have b1 := cell_blk (Heap.heap h9) 1
            refine wp_last_skip (w' := w_.setCell ⟨x, 1, none⟩ (.int .u32 (0 + (f : Nat)))) (m := Instr.storeAt 33 (.pointer (some ⟨x, 1, none⟩)) (.int .u32 (0 + (f : Nat)))) (by kernel_rfl) (run_store1 (by kernel_rfl) rfl rfl b1.1 b1.2) ?_
            have h10 := h9.setl 1 (.int .u32 (0 + (f : Nat)))
            rw [show (0 : Int) + (f : Nat) = (f : Nat) by omega] at h10 ⊢
            clear h9 b1 hJ Hx1 Hd2 Hh0 H d2 hbl
            generalize w_.setCell ⟨x, 1, none⟩ (.int .u32 (f : Nat)) = W8 at h10 ⊢
            have H := hide h10
            clear h10
            go_wp2
            go_roundw

            case rel => exact ⟨1, f, by simp, .inr (.inl ⟨rfl, rfl⟩), unhide H⟩
            case measure => simp [intOf]
        · have hhb := hn
          have Hx1 : Hid (wr.cell? ⟨x, 1, none⟩ = some (.int .u32 (f : Nat))) := hide (cell_blk (Heap.heap hJ) 1).1
          have Hd2 := hide d2
          have Hh0 : Hid (wr.cell? ⟨g1, o1 + 1 * 1, none⟩ = some (.int .u16 (n : Nat))) := hide ((hJ.f3.slw.at_ (j := 1) (by omega)).2.1)
          have H := hide hJ
          clear hJ
          go_upto_region 12 with fail
          refine wp_region_E (fun w_ => GN wr w_) GN (fun k_ v_ w_ => match k_ with
              | 0 => v_ = .pointer (some ⟨x, 0 + 1, none⟩)
              | 1 => v_ = .int .u32 (f : Nat)
              | 2 => v_ = .pointer (some ⟨b, 0, none⟩)
              | 3 => v_ = .pointer (some ⟨b, 0, none⟩)
              | 4 => v_ = .pointer (some ⟨b, 0 + 2, none⟩)
              | 5 => v_ = .slice (some ⟨g1, o1, none⟩) 2 cap4
              | 6 => v_ = .int .i64 1
              | 7 => v_ = .pointer (some ⟨g1, o1 + 1 * 1, none⟩)
              | 8 => v_ = .int .u16 (n : Nat)
              | 9 => v_ = .int .u32 (n : Nat)
              | 10 => v_ = .int .i64 1
              | 11 => v_ = .int .i64 16
              | 12 => v_ = .int .u32 ((n : Nat) * 65536)
              | 13 => v_ = .int .u32 ((f : Nat) + ((n : Nat) * 65536))
              | _ => v_ = .pointer (some ⟨x, 0 + 1, none⟩)) fol (by kernel_rfl) ?_ ?_ (n := 15) rfl rfl rfl (by kernel_rfl) ?_ ?_
          · exact (GN.refl wr).drew
          · intro k_ v_ w_ w2_ h1 hg
            split at h1 <;> exact h1
          · intro vals
            show wpG _ _ _ _ _ _ 0 (_ :: _) _
            refine wpG_cons (gval (.pointer (some ⟨x, 0 + 1, none⟩)) GN.refl fun w_ hJ hd => ?_) ?_
            · exact ⟨by kernel_rfl, by kernel_rfl, rfl⟩
            refine wpG_cons (gop (Instr.loadAt 33 (.pointer (some ⟨x, 0 + 1, none⟩))) (.int .u32 (f : Nat)) GN.refl fun w_ hJ hd => ?_) ?_
            · have e0 : vals 0 = _ := hd 0 (by decide) (by kernel_rfl)
              rw [e0]
              exact ⟨by kernel_rfl, by kernel_rfl, run_load1 (by kernel_rfl) (cell_GN hJ (unhide Hx1)), rfl⟩
            refine wpG_cons (gval (.pointer (some ⟨b, 0, none⟩)) GN.refl fun w_ hJ hd => ?_) ?_
            · exact ⟨by kernel_rfl, by kernel_rfl, rfl⟩
            refine wpG_cons (gval (.pointer (some ⟨b, 0, none⟩)) GN.refl fun w_ hJ hd => ?_) ?_
            · have e2 : vals 2 = _ := hd 2 (by decide) (by kernel_rfl)
              rw [e2]
              exact ⟨by kernel_rfl, by kernel_rfl, rfl⟩
            refine wpG_cons (gval (.pointer (some ⟨b, 0 + 2, none⟩)) GN.refl fun w_ hJ hd => ?_) ?_
            · have e3 : vals 3 = _ := hd 3 (by decide) (by kernel_rfl)
              rw [e3]
              exact ⟨by kernel_rfl, by kernel_rfl, rfl⟩
            refine wpG_cons (gop (Instr.loadAt 23 (.pointer (some ⟨b, 0 + 2, none⟩))) (.slice (some ⟨g1, o1, none⟩) 2 cap4) GN.refl fun w_ hJ hd => ?_) ?_
            · have e4 : vals 4 = _ := hd 4 (by decide) (by kernel_rfl)
              rw [e4]
              exact ⟨by kernel_rfl, by kernel_rfl, run_load1 (by kernel_rfl) (cell_GN hJ (unhide Hd2)), rfl⟩
            refine wpG_cons (gval (.int .i64 1) GN.refl fun w_ hJ hd => ?_) ?_
            · exact ⟨by kernel_rfl, by kernel_rfl, rfl⟩
            refine wpG_cons (gop (Instr.indexAt 23 (.slice (some ⟨g1, o1, none⟩) 2 cap4) (.int .i64 ((1 : Nat) : Int))) (.pointer (some ⟨g1, o1 + 1 * 1, none⟩)) GN.refl fun w_ hJ hd => ?_) ?_
            · have e5 : vals 5 = _ := hd 5 (by decide) (by kernel_rfl)
              have e6 : vals 6 = _ := hd 6 (by decide) (by kernel_rfl)
              rw [e5, e6]
              exact ⟨by kernel_rfl, by kernel_rfl, run_ixat 23 32 1 Tryd.underlying23 (by kernel_rfl) g1 o1 2 cap4 1 (by omega) w_, rfl⟩
            refine wpG_cons (gop (Instr.loadAt 32 (.pointer (some ⟨g1, o1 + 1 * 1, none⟩))) (.int .u16 (n : Nat)) GN.refl fun w_ hJ hd => ?_) ?_
            · have e7 : vals 7 = _ := hd 7 (by decide) (by kernel_rfl)
              rw [e7]
              exact ⟨by kernel_rfl, by kernel_rfl, run_load1 (by kernel_rfl) (cell_GN hJ (unhide Hh0)), rfl⟩
            refine wpG_cons (gop (convert 32 33 (.int .u16 (n : Nat))) (.int .u32 (n : Nat)) GN.refl fun w_ hJ hd => ?_) ?_
            · have e8 : vals 8 = _ := hd 8 (by decide) (by kernel_rfl)
              rw [e8]
              exact ⟨by kernel_rfl, by kernel_rfl, run_cv32 n hhb w_, rfl⟩
            refine wpG_cons (gval (.int .i64 1) GN.refl fun w_ hJ hd => ?_) ?_
            · exact ⟨by kernel_rfl, by kernel_rfl, rfl⟩
            refine wpG_cons (gval (.int .i64 16) GN.refl fun w_ hJ hd => ?_) ?_
            · have e10 : vals 10 = _ := hd 10 (by decide) (by kernel_rfl)
              rw [e10]
              exact ⟨by kernel_rfl, by kernel_rfl, rfl⟩
            refine wpG_cons (gop (binOp .shl 33 (.int .u32 (n : Nat)) (.int .i64 16)) (.int .u32 ((n : Nat) * 65536)) GN.refl fun w_ hJ hd => ?_) ?_
            · have e9 : vals 9 = _ := hd 9 (by decide) (by kernel_rfl)
              have e11 : vals 11 = _ := hd 11 (by decide) (by kernel_rfl)
              rw [e9, e11]
              exact ⟨by kernel_rfl, by kernel_rfl, run_shl16 n hhb w_, rfl⟩
            refine wpG_cons (gop (binOp .add 33 (.int .u32 (f : Nat)) (.int .u32 ((n : Nat) * 65536))) (.int .u32 ((f : Nat) + ((n : Nat) * 65536))) GN.refl fun w_ hJ hd => ?_) ?_
            · have e1 : vals 1 = _ := hd 1 (by decide) (by kernel_rfl)
              have e12 : vals 12 = _ := hd 12 (by decide) (by kernel_rfl)
              rw [e1, e12]
              exact ⟨by kernel_rfl, by kernel_rfl, run_add33 (f : Nat) ((n : Nat) * 65536) (by omega) w_, rfl⟩
            refine wpG_cons (gval (.pointer (some ⟨x, 0 + 1, none⟩)) GN.refl fun w_ hJ hd => ?_) wpG_nil
            · exact ⟨by kernel_rfl, by kernel_rfl, rfl⟩
          · intro vals w_ hJ hf
            have e0 : vals 0 = _ := hf 0 (by decide)
            have e1 : vals 1 = _ := hf 1 (by decide)
            have e2 : vals 2 = _ := hf 2 (by decide)
            have e3 : vals 3 = _ := hf 3 (by decide)
            have e4 : vals 4 = _ := hf 4 (by decide)
            have e5 : vals 5 = _ := hf 5 (by decide)
            have e6 : vals 6 = _ := hf 6 (by decide)
            have e7 : vals 7 = _ := hf 7 (by decide)
            have e8 : vals 8 = _ := hf 8 (by decide)
            have e9 : vals 9 = _ := hf 9 (by decide)
            have e10 : vals 10 = _ := hf 10 (by decide)
            have e11 : vals 11 = _ := hf 11 (by decide)
            have e12 : vals 12 = _ := hf 12 (by decide)
            have e13 : vals 13 = _ := hf 13 (by decide)
            have e14 : vals 14 = _ := hf 14 (by decide)
            show Oper.wp _ _ (fillG vals 0 (_ :: _ :: _ :: _ :: _ :: _ :: _ :: _ :: _ :: _ :: _ :: _ :: _ :: _ :: _ :: []) _) _ _ _
            simp only [fillG, Nat.zero_add, Nat.reduceAdd, e0, e1, e2, e3, e4, e5, e6, e7, e8, e9, e10, e11, e12, e13, e14, Act.put, List.setIfInBounds_toArray, List.set_cons_succ, List.set_cons_zero]
            clear e0 e1 e2 e3 e4 e5 e6 e7 e8 e9 e10 e11 e12 e13 e14 hf
            have h9 := (unhide H).grown hJ
            have b1 := cell_blk (Heap.heap h9) 1
            refine wp_last_skip (w' := w_.setCell ⟨x, 1, none⟩ (.int .u32 ((f : Nat) + ((n : Nat) * 65536)))) (m := Instr.storeAt 33 (.pointer (some ⟨x, 1, none⟩)) (.int .u32 ((f : Nat) + ((n : Nat) * 65536)))) (by kernel_rfl) (run_store1 (by kernel_rfl) rfl rfl b1.1 b1.2) ?_
            have h10 := h9.setl 1 (.int .u32 ((f : Nat) + ((n : Nat) * 65536)))
            rw [show ((f : Nat) : Int) + ((n : Nat) * 65536) = ((n : Nat) * 65536 + (f : Nat)) by omega] at h10 ⊢
            clear h9 b1 hJ Hx1 Hd2 Hh0 H d2 hbl
            generalize w_.setCell ⟨x, 1, none⟩ (.int .u32 ((n : Nat) * 65536 + (f : Nat))) = W8 at h10 ⊢
            have H := hide h10
            clear h10
            go_wp2
            go_roundw

            case rel => exact ⟨2, ((n : Nat) * 65536 + (f : Nat)), by simp, .inr (.inr ⟨rfl, rfl⟩), unhide H⟩
            case measure => simp [intOf]
        · have x1 : wr.cell? ⟨x, 1, none⟩ = some (.int .u32 ((n : Nat) * 65536 + (f : Nat))) := (cell_blk (Heap.heap hJ) 1).1
          have x2 : wr.cell? ⟨x, 2, none⟩ = some (.int .u32 0) := (cell_blk (Heap.heap hJ) 2).1
          have x2f := (cell_blk (Heap.heap hJ) 2).2
          have hxl := lt_of_heap' (Heap.heap hJ)
          have h9 := hJ.setl 2 (.int .u32 ((n : Nat) * 65536 + (f : Nat)))
          have b0 : wr.cell? ⟨b, 0, none⟩ = some (.pointer (some ⟨g, 0, none⟩)) := (cell_blk (Heap.heap hJ.f2) 0).1
          have H := hide h9
          clear h9 hJ
          go_upto_region 21 with fail
          generalize wr.setCell ⟨x, 2, none⟩ (.int .u32 ((n : Nat) * 65536 + (f : Nat))) = W9 at H ⊢
          clear b0 x1 x2 x2f hxl hbl d2
          have h9 := unhide H
          obtain ⟨_, _, _, _, _, _, _, _, _, _, _, gi, _⟩ := (Heap.sort (L1 := [_, _, _, _, _, _]) (L2 := [_, _, _, _, _, _]) (M := L) h9 [5, 0, 1, 2, 3, 4] rfl rfl (by decide)).rgo
          obtain ⟨a0, a1⟩ := (unhide HI).at_
          obtain ⟨X, hX⟩ : ∃ X, nOut c F.at_ 4 = X := ⟨_, rfl⟩
          have hXb := nOut_bd gi F.at_ 4
          rw [hX] at hXb
          have HX := hide hX
          clear hX gi
          have b0 : W9.cell? ⟨b, 0, none⟩ = some (.pointer (some ⟨g, 0, none⟩)) := (cell_blk (Heap.heap h9.f2) 0).1
          have hbl := lt_of_heap' (Heap.heap h9.f2)
          clear h9
          go_wp2_with fail
          refine (stackR_h (Heap.sort (L1 := [_, _, _, _, _, _]) (L2 := [_, _, _, _, _, _]) (M := L) (unhide H) [5, 0, 1, 2, 3, 4] rfl rfl (by decide))).mono ?_
          rintro r W10 ⟨rfl, h10⟩
          clear H b0 hbl
          have h11 := Heap.sort (L1 := [_, _]) (L2 := [_, _]) (M := _ :: _ :: _ :: _ :: L) h10 [1, 0] rfl rfl (by decide)
          have hxl := lt_of_heap' (Heap.heap h11)
          have Ht := hide (there_blk (xs := [.int .u64 F.at_, .int .u32 ((n : Nat) * 65536 + (f : Nat)), .int .u32 ((n : Nat) * 65536 + (f : Nat)), .int .i64 4, .int .u64 0, .int .u64 0, .int .u64 0, .int .u64 0, .int .u64 0, .int .u64 0, .int .u64 0, .int .i64 0, .int .u64 0]) (Heap.heap h11) (o := 7) (n := 4) (by simp))
          have H11 := hide h11
          clear h10 h11
          go_wp2_with (refine wpList_store_mid rfl 34 (.tmp 127) (.tmp 124) rfl x 7 #[.int .u64 (c 112), .int .u64 (c 113), .int .u64 (c 114), .int .u64 (c 115)] rfl rfl ?_ (by kernel_rfl) (by kernel_rfl) ?_; rotate_left; refine unhide ?_)
          rotate_left
          · exact unhide Ht
          clear Ht
          have h12 := Heap.sets [.int .u64 (c 112), .int .u64 (c 113), .int .u64 (c 114), .int .u64 (c 115)] (xs := [.int .u64 F.at_, .int .u32 ((n : Nat) * 65536 + (f : Nat)), .int .u32 ((n : Nat) * 65536 + (f : Nat)), .int .i64 4, .int .u64 0, .int .u64 0, .int .u64 0, .int .u64 0, .int .u64 0, .int .u64 0, .int .u64 0, .int .i64 0, .int .u64 0]) (unhide H11) 7
          have h12 : Heap w0 _ (HP.blk x ([.int .u64 F.at_, .int .u32 ((n : Nat) * 65536 + (f : Nat)), .int .u32 ((n : Nat) * 65536 + (f : Nat)), .int .i64 4, .int .u64 0, .int .u64 0, .int .u64 0, .int .u64 (c 112), .int .u64 (c 113), .int .u64 (c 114), .int .u64 (c 115), .int .i64 0, .int .u64 0] : List Value).toArray 61 :: _) := h12
          generalize W10.setCells x 7 [.int .u64 (c 112), .int .u64 (c 113), .int .u64 (c 114), .int .u64 (c 115)] = W11 at h12 ⊢
          have x11 : W11.cell? ⟨x, 11, none⟩ = some (.int .i64 0) := (cell_blk (Heap.heap h12) 11).1
          have x11f := (cell_blk (Heap.heap h12) 11).2
          have x12 : W11.cell? ⟨x, 12, none⟩ = some (.int .u64 0) := (cell_blk (Heap.heap h12) 12).1
          have x12f := (cell_blk (Heap.heap h12) 12).2
          have hxl := lt_of_heap' (Heap.heap h12)
          have H12 := hide ((h12.setl 11 (.int .i64 (c 116))).setl 12 (.int .u64 (c 117)))
          clear h12 H11
          refine hide ?_
          go_upto_region 22 with fail
          have h13 := unhide H12
          have h13 : Heap w0 _ (HP.blk x ([.int .u64 F.at_, .int .u32 ((n : Nat) * 65536 + (f : Nat)), .int .u32 ((n : Nat) * 65536 + (f : Nat)), .int .i64 4, .int .u64 0, .int .u64 0, .int .u64 0, .int .u64 (c 112), .int .u64 (c 113), .int .u64 (c 114), .int .u64 (c 115), .int .i64 (c 116), .int .u64 (c 117)] : List Value).toArray 61 :: HP.rg g c :: _) := h13
          generalize (W11.setCell ⟨x, 11, none⟩ (.int .i64 (c 116))).setCell ⟨x, 12, none⟩ (.int .u64 (c 117)) = W12 at h13 ⊢
          clear H12 x11 x11f x12 x12f hxl
          have hJ1 := Heap.sort (L1 := [_, _]) (L2 := [_, _]) (M := _ :: _ :: _ :: _ :: L) h13 [1, 0] rfl rfl (by decide)
          clear h13
          refine wp_region_XE 10 (fun fl_ w_ => Heap w0 w_ (HP.rg g (bif fl_ then nSt c F.at_ 4 else c) :: HP.blk x ([.int .u64 F.at_, .int .u32 ((n : Nat) * 65536 + (f : Nat)), .int .u32 ((n : Nat) * 65536 + (f : Nat)), .int .i64 4, .int .u64 0, .int .u64 0, .int .u64 0, .int .u64 (c 112), .int .u64 (c 113), .int .u64 (c 114), .int .u64 (c 115), .int .i64 (c 116), .int .u64 (c 117)] : List Value).toArray 61 :: HP.blk b (rfv g F (.slice (some ⟨g1, o1, none⟩) 2 cap4) (.slice Aq F.q.length cq)).toArray 69 :: HP.slw (.slice (some ⟨g1, o1, none⟩) 2 cap4) 1 2 [.int .u16 (f : Nat), .int .u16 (n : Nat)] :: HP.slw (.slice A1 1 c1) 1 1 [.int .u16 (f : Nat)] :: HP.slw (.slice Aq F.q.length cq) 13 F.q.length (itsC F.q) :: L)) (fun _ _ _ => True) (fun k_ v_ w_ => match k_ with
              | 0 => v_ = .pointer (some ⟨b, 0, none⟩)
              | 1 => v_ = .pointer (some ⟨b, 0, none⟩)
              | 2 => v_ = .pointer (some ⟨b, 0, none⟩)
              | 3 => v_ = .pointer (some ⟨g, 0, none⟩)
              | 4 => v_ = .pointer (some ⟨b, 0, none⟩)
              | 5 => v_ = .pointer (some ⟨b, 0, none⟩)
              | 6 => v_ = .pointer (some ⟨b, 1, none⟩)
              | 7 => v_ = .int .u64 F.at_
              | 8 => v_ = .pointer (some ⟨x, 3, none⟩)
              | 9 => v_ = .int .i64 4
              | _ => v_ = .int .u64 X) fol (by kernel_rfl) ?_ ?_ (by decide) (n := 11) rfl rfl rfl (by kernel_rfl) ?_ ?_
          · exact hJ1.drew
          · intro i_ k_ v_ w_ w2_ hne h1 hg
            split at h1 <;> exact h1
          · intro vals
            show wpX _ _ _ _ _ _ _ 0 (_ :: _) _
            refine wpX_cons (xval (.pointer (some ⟨b, 0, none⟩)) (fun _ => trivial) (by decide) fun fl_ w_ hJ hd => ?_) ?_
            · exact ⟨by kernel_rfl, by kernel_rfl, rfl⟩
            refine wpX_cons (xval (.pointer (some ⟨b, 0, none⟩)) (fun _ => trivial) (by decide) fun fl_ w_ hJ hd => ?_) ?_
            · have e0 : vals 0 = _ := hd 0 (by decide) (by kernel_rfl)
              rw [e0]
              exact ⟨by kernel_rfl, by kernel_rfl, rfl⟩
            refine wpX_cons (xval (.pointer (some ⟨b, 0, none⟩)) (fun _ => trivial) (by decide) fun fl_ w_ hJ hd => ?_) ?_
            · have e1 : vals 1 = _ := hd 1 (by decide) (by kernel_rfl)
              rw [e1]
              exact ⟨by kernel_rfl, by kernel_rfl, rfl⟩
            refine wpX_cons (xop (Instr.loadAt 54 (.pointer (some ⟨b, 0, none⟩))) (.pointer (some ⟨g, 0, none⟩)) (fun _ => trivial) (by decide) fun fl_ w_ hJ hd => ?_) ?_
            · have e2 : vals 2 = _ := hd 2 (by decide) (by kernel_rfl)
              rw [e2]
              exact ⟨by kernel_rfl, by kernel_rfl, run_load1 (by kernel_rfl) (cell_blk (Heap.heap hJ.f3) 0).1, rfl⟩
            refine wpX_cons (xval (.pointer (some ⟨b, 0, none⟩)) (fun _ => trivial) (by decide) fun fl_ w_ hJ hd => ?_) ?_
            · exact ⟨by kernel_rfl, by kernel_rfl, rfl⟩
            refine wpX_cons (xval (.pointer (some ⟨b, 0, none⟩)) (fun _ => trivial) (by decide) fun fl_ w_ hJ hd => ?_) ?_
            · have e4 : vals 4 = _ := hd 4 (by decide) (by kernel_rfl)
              rw [e4]
              exact ⟨by kernel_rfl, by kernel_rfl, rfl⟩
            refine wpX_cons (xval (.pointer (some ⟨b, 1, none⟩)) (fun _ => trivial) (by decide) fun fl_ w_ hJ hd => ?_) ?_
            · have e5 : vals 5 = _ := hd 5 (by decide) (by kernel_rfl)
              rw [e5]
              exact ⟨by kernel_rfl, by kernel_rfl, rfl⟩
            refine wpX_cons (xop (Instr.loadAt 22 (.pointer (some ⟨b, 1, none⟩))) (.int .u64 F.at_) (fun _ => trivial) (by decide) fun fl_ w_ hJ hd => ?_) ?_
            · have e6 : vals 6 = _ := hd 6 (by decide) (by kernel_rfl)
              rw [e6]
              exact ⟨by kernel_rfl, by kernel_rfl, run_load1 (by kernel_rfl) (cell_blk (Heap.heap hJ.f3) 1).1, rfl⟩
            refine wpX_cons (xval (.pointer (some ⟨x, 3, none⟩)) (fun _ => trivial) (by decide) fun fl_ w_ hJ hd => ?_) ?_
            · exact ⟨by kernel_rfl, by kernel_rfl, rfl⟩
            refine wpX_cons (xop (Instr.loadAt 3 (.pointer (some ⟨x, 3, none⟩))) (.int .i64 4) (fun _ => trivial) (by decide) fun fl_ w_ hJ hd => ?_) ?_
            · have e8 : vals 8 = _ := hd 8 (by decide) (by kernel_rfl)
              rw [e8]
              exact ⟨by kernel_rfl, by kernel_rfl, run_load1 (by kernel_rfl) (cell_blk (Heap.heap hJ.f2) 3).1, rfl⟩
            refine wpX_cons (xcall rfl 39 #[.pointer (some ⟨g, 0, none⟩), .int .u64 F.at_, .int .i64 4] fun w_ hJ hd => ?_) wpX_nil
            · have e3 : vals 3 = _ := hd 3 (by decide) (by kernel_rfl)
              have e7 : vals 7 = _ := hd 7 (by decide) (by kernel_rfl)
              have e9 : vals 9 = _ := hd 9 (by decide) (by kernel_rfl)
              rw [e3, e7, e9]
              exact ⟨by kernel_rfl, by kernel_rfl, (nextR_h (c := c) hJ F.at_ 4 a0 a1).mono fun r_ w'' ⟨hr_, h_⟩ => ⟨_, by rw [hr_, unhide HX], h_, trivial, rfl⟩⟩
          · intro vals w_ hJ hf
            have e0 : vals 0 = _ := hf 0 (by decide)
            have e1 : vals 1 = _ := hf 1 (by decide)
            have e2 : vals 2 = _ := hf 2 (by decide)
            have e3 : vals 3 = _ := hf 3 (by decide)
            have e4 : vals 4 = _ := hf 4 (by decide)
            have e5 : vals 5 = _ := hf 5 (by decide)
            have e6 : vals 6 = _ := hf 6 (by decide)
            have e7 : vals 7 = _ := hf 7 (by decide)
            have e8 : vals 8 = _ := hf 8 (by decide)
            have e9 : vals 9 = _ := hf 9 (by decide)
            have e10 : vals 10 = _ := hf 10 (by decide)
            show Oper.wp _ _ (fillG vals 0 (_ :: _ :: _ :: _ :: _ :: _ :: _ :: _ :: _ :: _ :: _ :: []) _) _ _ _
            simp only [fillG, Nat.zero_add, Nat.reduceAdd, e0, e1, e2, e3, e4, e5, e6, e7, e8, e9, e10, Act.put, List.setIfInBounds_toArray, List.set_cons_succ, List.set_cons_zero]
            clear e0 e1 e2 e3 e4 e5 e6 e7 e8 e9 e10 hf
            have h14 := hJ.f2
            clear hJ hJ1
            refine wp_last_value (v := .int .u64 X) (w' := w_) (by kernel_rfl) ?_
            show Exit.then _ _ Exit.normal (Act.put ⟨_, _⟩ (some 12) _) _
            simp only [Act.put, List.setIfInBounds_toArray, List.set_cons_succ, List.set_cons_zero]
            have x6 : w_.cell? ⟨x, 6, none⟩ = some (.int .u64 0) := (cell_blk (Heap.heap h14) 6).1
            have x6f := (cell_blk (Heap.heap h14) 6).2
            have hxl := lt_of_heap' (Heap.heap h14)
            have H14 := hide (h14.setl 6 (.int .u64 (X / 2 * 2)))
            have qX : X.tdiv 2 = X / 2 := quo2 X hXb.1
            clear h14
            obtain ⟨X0, X1⟩ := hXb
            go_upto_region 24 with fail
            have h15 := unhide H14
            have h15 : Heap w0 _ (HP.blk x ([.int .u64 F.at_, .int .u32 ((n : Nat) * 65536 + (f : Nat)), .int .u32 ((n : Nat) * 65536 + (f : Nat)), .int .i64 4, .int .u64 0, .int .u64 0, .int .u64 (evn X), .int .u64 (c 112), .int .u64 (c 113), .int .u64 (c 114), .int .u64 (c 115), .int .i64 (c 116), .int .u64 (c 117)] : List Value).toArray 61 :: _) := h15
            generalize w_.setCell ⟨x, 6, none⟩ (.int .u64 (X / 2 * 2)) = W2 at h15 ⊢
            have hJ2 : Heap w0 _ (HP.slw (.slice Aq F.q.length cq) 13 F.q.length (itsC F.q) :: HP.blk x ([.int .u64 F.at_, .int .u32 ((n : Nat) * 65536 + (f : Nat)), .int .u32 ((n : Nat) * 65536 + (f : Nat)), .int .i64 4, .int .u64 0, .int .u64 0, .int .u64 (evn X), .int .u64 (c 112), .int .u64 (c 113), .int .u64 (c 114), .int .u64 (c 115), .int .i64 (c 116), .int .u64 (c 117)] : List Value).toArray 61 :: HP.blk b (rfv g F (.slice (some ⟨g1, o1, none⟩) 2 cap4) (.slice Aq F.q.length cq)).toArray 69 :: HP.slw (.slice (some ⟨g1, o1, none⟩) 2 cap4) 1 2 [.int .u16 (f : Nat), .int .u16 (n : Nat)] :: HP.slw (.slice A1 1 c1) 1 1 [.int .u16 (f : Nat)] :: HP.rg g (nSt c F.at_ 4) :: L) := Heap.sort (L1 := [_, _, _, _, _, _]) (L2 := [_, _, _, _, _, _]) (M := L) h15 [5, 0, 2, 3, 4, 1] rfl rfl (by decide)
            clear h15 H14 x6 x6f hxl qX
            have Hsp_ : Hid (∀ g_, spare (.slice Aq F.q.length cq) = some g_ → g_ < W2.heap.size) := hide fun g_ hg_ => hJ2.slw.blk_lt (spare_blk hg_)
            refine wp_region_XE 7 (fun fl_ w_ => (Heap w0 w_ (HP.blk x ([.int .u64 F.at_, .int .u32 ((n : Nat) * 65536 + (f : Nat)), .int .u32 ((n : Nat) * 65536 + (f : Nat)), .int .i64 4, .int .u64 0, .int .u64 0, .int .u64 (evn X), .int .u64 (c 112), .int .u64 (c 113), .int .u64 (c 114), .int .u64 (c 115), .int .i64 (c 116), .int .u64 (c 117)] : List Value).toArray 61 :: HP.blk b (rfv g F (.slice (some ⟨g1, o1, none⟩) 2 cap4) (.slice Aq F.q.length cq)).toArray 69 :: HP.slw (.slice (some ⟨g1, o1, none⟩) 2 cap4) 1 2 [.int .u16 (f : Nat), .int .u16 (n : Nat)] :: HP.slw (.slice A1 1 c1) 1 1 [.int .u16 (f : Nat)] :: HP.rg g (nSt c F.at_ 4) :: L)) ∧ W2.heap.size ≤ w_.heap.size ∧ (fl_ = false → Heap w0 w_ (HP.slw (.slice Aq F.q.length cq) 13 F.q.length (itsC F.q) :: HP.blk x ([.int .u64 F.at_, .int .u32 ((n : Nat) * 65536 + (f : Nat)), .int .u32 ((n : Nat) * 65536 + (f : Nat)), .int .i64 4, .int .u64 0, .int .u64 0, .int .u64 (evn X), .int .u64 (c 112), .int .u64 (c 113), .int .u64 (c 114), .int .u64 (c 115), .int .i64 (c 116), .int .u64 (c 117)] : List Value).toArray 61 :: HP.blk b (rfv g F (.slice (some ⟨g1, o1, none⟩) 2 cap4) (.slice Aq F.q.length cq)).toArray 69 :: HP.slw (.slice (some ⟨g1, o1, none⟩) 2 cap4) 1 2 [.int .u16 (f : Nat), .int .u16 (n : Nat)] :: HP.slw (.slice A1 1 c1) 1 1 [.int .u16 (f : Nat)] :: HP.rg g (nSt c F.at_ 4) :: L))) (fun i_ x_ y_ => match i_ with | 7 => x_.grownBy y_ (spare (.slice Aq F.q.length cq)) | _ => (∀ L_, Heap w0 x_ L_ → Heap w0 y_ L_) ∧ GN x_ y_) (fun k_ v_ w_ => match k_ with
                | 0 => v_ = .pointer (some ⟨b, 0, none⟩)
                | 1 => v_ = .pointer (some ⟨b, 0, none⟩)
                | 2 => v_ = .pointer (some ⟨b, 0, none⟩)
                | 3 => v_ = .pointer (some ⟨b, 4, none⟩)
                | 4 => v_ = .slice Aq F.q.length cq
                | 5 => v_ = .agg #[.int .u64 F.at_, .int .u32 ((n : Nat) * 65536 + (f : Nat)), .int .u32 ((n : Nat) * 65536 + (f : Nat)), .int .i64 4, .int .u64 0, .int .u64 0, .int .u64 (evn X), .int .u64 (c 112), .int .u64 (c 113), .int .u64 (c 114), .int .u64 (c 115), .int .i64 (c 116), .int .u64 (c 117)]
                | 6 => ∃ kk : Nat, v_ = .slice (some ⟨kk, 0, none⟩) 1 1 ∧ W2.heap.size ≤ kk ∧ w_.heap[kk]? = some (.cells #[.int .u64 F.at_, .int .u32 ((n : Nat) * 65536 + (f : Nat)), .int .u32 ((n : Nat) * 65536 + (f : Nat)), .int .i64 4, .int .u64 0, .int .u64 0, .int .u64 (evn X), .int .u64 (c 112), .int .u64 (c 113), .int .u64 (c 114), .int .u64 (c 115), .int .i64 (c 116), .int .u64 (c 117)] 61 (0, 0))
                | 7 => Heap w0 w_ (HP.slw v_ 13 (F.q.length + 1) (itsC F.q ++ [.int .u64 F.at_, .int .u32 ((n : Nat) * 65536 + (f : Nat)), .int .u32 ((n : Nat) * 65536 + (f : Nat)), .int .i64 4, .int .u64 0, .int .u64 0, .int .u64 (evn X), .int .u64 (c 112), .int .u64 (c 113), .int .u64 (c 114), .int .u64 (c 115), .int .i64 (c 116), .int .u64 (c 117)]) :: HP.blk x ([.int .u64 F.at_, .int .u32 ((n : Nat) * 65536 + (f : Nat)), .int .u32 ((n : Nat) * 65536 + (f : Nat)), .int .i64 4, .int .u64 0, .int .u64 0, .int .u64 (evn X), .int .u64 (c 112), .int .u64 (c 113), .int .u64 (c 114), .int .u64 (c 115), .int .i64 (c 116), .int .u64 (c 117)] : List Value).toArray 61 :: HP.blk b (rfv g F (.slice (some ⟨g1, o1, none⟩) 2 cap4) (.slice Aq F.q.length cq)).toArray 69 :: HP.slw (.slice (some ⟨g1, o1, none⟩) 2 cap4) 1 2 [.int .u16 (f : Nat), .int .u16 (n : Nat)] :: HP.slw (.slice A1 1 c1) 1 1 [.int .u16 (f : Nat)] :: HP.rg g (nSt c F.at_ 4) :: L)
                | 8 => v_ = .pointer (some ⟨b, 0, none⟩)
                | _ => v_ = .pointer (some ⟨b, 4, none⟩)) fol (by kernel_rfl) ?_ ?_ (by decide) (n := 10) rfl rfl rfl (by kernel_rfl) ?_ ?_
            · exact ⟨hJ2.tail.drew, Nat.le_refl _, fun _ => hJ2.drew⟩
            · intro i_ k_ v_ w_ w2_ hne h1 hg
              split at h1
              all_goals first
                | exact h1
                | (obtain ⟨kk, e_, q_, r_⟩ := h1; split at hg; exact ⟨kk, e_, q_, (World.grownBy.block hg kk (lt_of_heap' r_) (fun c_ => by have := unhide Hsp_ _ c_.symm; omega)).trans r_⟩; exact ⟨kk, e_, q_, hg.2.heap r_⟩)
                | (split at hg; exact absurd rfl hne; exact hg.1 _ h1)
            · intro vals
              show wpX _ _ _ _ _ _ _ 0 (_ :: _) _
              refine wpX_cons (xval (.pointer (some ⟨b, 0, none⟩)) (fun _ => ⟨fun _ h_ => h_, GN.refl _⟩) (by decide) fun fl_ w_ hJ hd => ?_) ?_
              · exact ⟨by kernel_rfl, by kernel_rfl, rfl⟩
              refine wpX_cons (xval (.pointer (some ⟨b, 0, none⟩)) (fun _ => ⟨fun _ h_ => h_, GN.refl _⟩) (by decide) fun fl_ w_ hJ hd => ?_) ?_
              · exact ⟨by kernel_rfl, by kernel_rfl, rfl⟩
              refine wpX_cons (xval (.pointer (some ⟨b, 0, none⟩)) (fun _ => ⟨fun _ h_ => h_, GN.refl _⟩) (by decide) fun fl_ w_ hJ hd => ?_) ?_
              · have e1 : vals 1 = _ := hd 1 (by decide) (by kernel_rfl)
                rw [e1]
                exact ⟨by kernel_rfl, by kernel_rfl, rfl⟩
              refine wpX_cons (xval (.pointer (some ⟨b, 4, none⟩)) (fun _ => ⟨fun _ h_ => h_, GN.refl _⟩) (by decide) fun fl_ w_ hJ hd => ?_) ?_
              · have e2 : vals 2 = _ := hd 2 (by decide) (by kernel_rfl)
                rw [e2]
                exact ⟨by kernel_rfl, by kernel_rfl, rfl⟩
              refine wpX_cons (xop (Instr.loadAt 67 (.pointer (some ⟨b, 4, none⟩))) (.slice Aq F.q.length cq) (fun _ => ⟨fun _ h_ => h_, GN.refl _⟩) (by decide) fun fl_ w_ hJ hd => ?_) ?_
              · have e3 : vals 3 = _ := hd 3 (by decide) (by kernel_rfl)
                rw [e3]
                exact ⟨by kernel_rfl, by kernel_rfl, run_load1 (by kernel_rfl) (cell_blk (Heap.heap (Heap.f2 hJ.1)) 4).1, rfl⟩
              refine wpX_cons (xop (Instr.loadAt 61 (.pointer (some ⟨x, 0, none⟩))) (.agg #[.int .u64 F.at_, .int .u32 ((n : Nat) * 65536 + (f : Nat)), .int .u32 ((n : Nat) * 65536 + (f : Nat)), .int .i64 4, .int .u64 0, .int .u64 0, .int .u64 (evn X), .int .u64 (c 112), .int .u64 (c 113), .int .u64 (c 114), .int .u64 (c 115), .int .i64 (c 116), .int .u64 (c 117)]) (fun _ => ⟨fun _ h_ => h_, GN.refl _⟩) (by decide) fun fl_ w_ hJ hd => ?_) ?_
              · exact ⟨by kernel_rfl, by kernel_rfl, run_loadAt_mid w_ x 0 61 [.int .u64 F.at_, .int .u32 ((n : Nat) * 65536 + (f : Nat)), .int .u32 ((n : Nat) * 65536 + (f : Nat)), .int .i64 4, .int .u64 0, .int .u64 0, .int .u64 (evn X), .int .u64 (c 112), .int .u64 (c 113), .int .u64 (c 114), .int .u64 (c 115), .int .i64 (c 116), .int .u64 (c 117)] _ (range_blk (Heap.heap hJ.1) 0 13 _ rfl) Tryd.underlying61 rfl (by kernel_rfl), rfl⟩
              refine wpX_cons (xmake (by decide) fun fl_ w_ hJ hd => ?_) ?_
              · have e5 : vals 5 = _ := hd 5 (by decide) (by kernel_rfl)
                rw [e5]
                exact ⟨by kernel_rfl, _, w_.alloc (.cells #[.int .u64 F.at_, .int .u32 ((n : Nat) * 65536 + (f : Nat)), .int .u32 ((n : Nat) * 65536 + (f : Nat)), .int .i64 4, .int .u64 0, .int .u64 0, .int .u64 (evn X), .int .u64 (c 112), .int .u64 (c 113), .int .u64 (c 114), .int .u64 (c 115), .int .i64 (c 116), .int .u64 (c 117)] 61), (by kernel_rfl : _ = Result.ok (Next.value (.slice (some ⟨w_.heap.size, 0, none⟩) 1 1)) _), ⟨hJ.1.alloc _, Nat.le_trans hJ.2.1 (by simp), fun h_ => (hJ.2.2 h_).alloc _⟩, ⟨fun _ h_ => h_.alloc _, grown_b1 _ _⟩, w_.heap.size, rfl, hJ.2.1, heap_new' _ _⟩
              refine wpX_cons (xevent rfl fun w_ hJ hd => ?_) ?_
              · have e4 : vals 4 = _ := hd 4 (by decide) (by kernel_rfl)
                have e6 : ∃ kk : Nat, (vals 6) = .slice (some ⟨kk, 0, none⟩) 1 1 ∧ W2.heap.size ≤ kk ∧ w_.heap[kk]? = some (.cells #[.int .u64 F.at_, .int .u32 ((n : Nat) * 65536 + (f : Nat)), .int .u32 ((n : Nat) * 65536 + (f : Nat)), .int .i64 4, .int .u64 0, .int .u64 0, .int .u64 (evn X), .int .u64 (c 112), .int .u64 (c 113), .int .u64 (c 114), .int .u64 (c 115), .int .i64 (c 116), .int .u64 (c 117)] 61 (0, 0)) := hd 6 (by decide) (by kernel_rfl)
                rw [e4]
                obtain ⟨kk, e_, q_, r_⟩ := e6
                rw [e_]
                have hB_ := hJ.2.2 rfl
                obtain ⟨v', w', hr_, hsl_, hgr_, hblk_, _⟩ := run_append_sl (P := Tryd.prog) w_ 67 67 61 j0 _ 13 96 Tryd.underlying67 hj0 hy0 hy1 hy2 rfl hB_.slw (sl_blk (n := 1) (sz := 13) (xs := [.int .u64 F.at_, .int .u32 ((n : Nat) * 65536 + (f : Nat)), .int .u32 ((n : Nat) * 65536 + (f : Nat)), .int .i64 4, .int .u64 0, .int .u64 0, .int .u64 (evn X), .int .u64 (c 112), .int .u64 (c 113), .int .u64 (c 114), .int .u64 (c 115), .int .i64 (c 116), .int .u64 (c 117)]) r_ rfl) (itl_cell ⟨F.at_, ((n : Nat) * 65536 + (f : Nat)), ((n : Nat) * 65536 + (f : Nat)), 4, 0, 0, evn X, c⟩) (by omega) (by omega)
                have hA_ := hB_.appendw hsl_ hgr_ hblk_
                exact ⟨by kernel_rfl, v', w', Eq.trans (b := Sem.run Tryd.prog (do let r ← Builtin.append_ #[67, 67] 67 #[.slice Aq F.q.length cq, .slice (some ⟨kk, 0, none⟩) 1 1]; pure (Next.value r)) w_) (by kernel_rfl) (run_val hr_), ⟨hA_.tail, Nat.le_trans hJ.2.1 hgr_.size, fun h_ => by cases h_⟩, hgr_, hA_⟩
              refine wpX_cons (xval (.pointer (some ⟨b, 0, none⟩)) (fun _ => ⟨fun _ h_ => h_, GN.refl _⟩) (by decide) fun fl_ w_ hJ hd => ?_) ?_
              · have e0 : vals 0 = _ := hd 0 (by decide) (by kernel_rfl)
                rw [e0]
                exact ⟨by kernel_rfl, by kernel_rfl, rfl⟩
              refine wpX_cons (xval (.pointer (some ⟨b, 4, none⟩)) (fun _ => ⟨fun _ h_ => h_, GN.refl _⟩) (by decide) fun fl_ w_ hJ hd => ?_) wpX_nil
              · have e8 : vals 8 = _ := hd 8 (by decide) (by kernel_rfl)
                rw [e8]
                exact ⟨by kernel_rfl, by kernel_rfl, rfl⟩
            · intro vals w_ hJ hf
              have e0 : vals 0 = _ := hf 0 (by decide)
              have e1 : vals 1 = _ := hf 1 (by decide)
              have e2 : vals 2 = _ := hf 2 (by decide)
              have e3 : vals 3 = _ := hf 3 (by decide)
              have e4 : vals 4 = _ := hf 4 (by decide)
              have e5 : vals 5 = _ := hf 5 (by decide)
              have e8 : vals 8 = _ := hf 8 (by decide)
              have e9 : vals 9 = _ := hf 9 (by decide)
              have e7 : Heap w0 w_ (HP.slw (vals 7) 13 (F.q.length + 1) (itsC F.q ++ [.int .u64 F.at_, .int .u32 ((n : Nat) * 65536 + (f : Nat)), .int .u32 ((n : Nat) * 65536 + (f : Nat)), .int .i64 4, .int .u64 0, .int .u64 0, .int .u64 (evn X), .int .u64 (c 112), .int .u64 (c 113), .int .u64 (c 114), .int .u64 (c 115), .int .i64 (c 116), .int .u64 (c 117)]) :: HP.blk x ([.int .u64 F.at_, .int .u32 ((n : Nat) * 65536 + (f : Nat)), .int .u32 ((n : Nat) * 65536 + (f : Nat)), .int .i64 4, .int .u64 0, .int .u64 0, .int .u64 (evn X), .int .u64 (c 112), .int .u64 (c 113), .int .u64 (c 114), .int .u64 (c 115), .int .i64 (c 116), .int .u64 (c 117)] : List Value).toArray 61 :: HP.blk b (rfv g F (.slice (some ⟨g1, o1, none⟩) 2 cap4) (.slice Aq F.q.length cq)).toArray 69 :: HP.slw (.slice (some ⟨g1, o1, none⟩) 2 cap4) 1 2 [.int .u16 (f : Nat), .int .u16 (n : Nat)] :: HP.slw (.slice A1 1 c1) 1 1 [.int .u16 (f : Nat)] :: HP.rg g (nSt c F.at_ 4) :: L) := hf 7 (by decide)
              show Oper.wp _ _ (fillG vals 0 (_ :: _ :: _ :: _ :: _ :: _ :: _ :: _ :: _ :: _ :: []) _) _ _ _
              simp only [fillG, Nat.zero_add, Nat.reduceAdd, e0, e1, e2, e3, e4, e5, e8, e9, Act.put, List.setIfInBounds_toArray, List.set_cons_succ, List.set_cons_zero]
              clear e0 e1 e2 e3 e4 e5 e8 e9 hf
              generalize vals 6 = v6 at *
              generalize vals 7 = v7 at *
              obtain ⟨A2, cap2, rfl, _⟩ := (Heap.slw e7).parts
              have b5 := cell_blk (Heap.heap (Heap.f3 e7)) 4
              refine wp_last_skip (w' := w_.setCell ⟨b, 4, none⟩ (.slice A2 (F.q.length + 1) cap2)) (m := Instr.storeAt 67 (.pointer (some ⟨b, 4, none⟩)) (.slice A2 (F.q.length + 1) cap2)) (by kernel_rfl) (run_store1 (by kernel_rfl) rfl rfl b5.1 b5.2) ?_
              show Exit.then _ _ Exit.normal (Act.put ⟨_, _⟩ none _) _
              simp only [Act.put]
              have hJ3 := (Heap.f3 e7).setl 4 (.slice A2 (F.q.length + 1) cap2)
              clear b5 e7 hJ hJ2 Hsp_
              generalize World.setCell w_ ⟨b, 4, none⟩ (.slice A2 (F.q.length + 1) cap2) = W3 at hJ3 ⊢
              have x6 := (cell_blk (Heap.heap (Heap.f3 hJ3)) 6).1
              obtain ⟨b1, b1f⟩ := (cell_blk (Heap.heap hJ3) 1)
              obtain ⟨b2, b2f⟩ := (cell_blk (Heap.heap hJ3) 2)
              have x6 : W3.cell? ⟨x, 6, none⟩ = some (.int .u64 (evn X)) := x6
              have b1 : W3.cell? ⟨b, 1, none⟩ = some (.int .u64 F.at_) := b1
              have b2 : W3.cell? ⟨b, 2, none⟩ = some (.slice (some ⟨g1, o1, none⟩) 2 cap4) := b2
              have hbl := lt_of_heap' (Heap.heap hJ3)
              have hxl := lt_of_heap' (Heap.heap (Heap.f3 hJ3))
              have hJ4 := hide ((hJ3.setl 1 (.int .u64 (evn X))).setl 2 (.slice none 0 0))
              clear hJ3
              go_wp2
              go_ret
              refine ⟨rfl, ?_⟩
              rw [← unhide HF2, ← unhide Hc2, show giveF F c n = wholeF F c (n * 65536 + f) (n * 65536 + f) 4 from by unfold giveF; rw [unhide Hcv, unhide Hs, unhide Hff]; rfl, show giveC F c n = nSt c F.at_ 4 from by unfold giveC; rw [unhide Hcv, unhide Hs]; rfl]
              refine Heap.rfc [] (.slice none 0 0) (.slice A2 (F.q.length + 1) cap2) (fun _ => rfl) ?_
              unfold RB wholeF wItem
              rw [unhide HX, itsC_snoc, List.length_append]
              exact (Heap.sort (L1 := [_, _, _, _, _, _, _]) (L2 := [_, _, _, _, _, _, _]) (M := L) ((unhide hJ4).noneS (sz := 1)) [3, 4, 5, 1, 0, 2, 6] rfl rfl (by decide)).tail.tail.tail

theorem giveR_f (hI : FI F) (hT : Tab w0) (h : Heap w0 w (HP.rf b g F :: HP.rg g c :: L)) (n : Nat) (hn : n < 65536) :
    Calls Tryd.prog 21 #[.pointer (some ⟨b, 0, none⟩), .int .u16 (n : Nat)] w fun r w' => r = .returned (.bool (canF F)) ∧ Heap w0 w' (HP.rf b g (giveF F c n) :: HP.rg g (giveC F c n) :: L) := by
  cases hs : F.some with
  | false => exact giveR_one hI hT h n hn hs
  | true => exact giveR_two hI hT h n hn hs
end
end Go.Proofs.YtblbgalpkodibaaDoor
