/- Layer 20, the document's front: Take. -/
import Derived.Test.YtblbgalpkodibaaDoorH2
import Derived.Test.YtblbgalpkodibaaDoorF8
namespace Go.Proofs.YtblbgalpkodibaaDoor
open Go.RowKit
theorem res23 {tmps : Array Value} {w : World} {ri : Nat} {x : It} {v : Bool} (h2 : tmps.getD 2 undef = .pointer (some ⟨ri, 0, none⟩)) (h3 : tmps.getD 3 undef = .bool v) (hr : w.heap[ri]? = some (.cells (itl x).toArray 61 (0, 0))) :
    (results Tryd.f23 tmps).run Tryd.prog w = .ok (.tuple #[.agg (itl x).toArray, .bool v]) w := by
  have hl := run_loadVar_row (P := Tryd.prog) w ri 61 61 (itl x).toArray (0, 0) _ hr Tryd.underlying61 rfl (by kernel_rfl)
  have h2' : tmps[2]?.getD undef = .pointer (some ⟨ri, 0, none⟩) := by simpa using h2
  have h3' : tmps[3]?.getD undef = .bool v := by simpa using h3
  simp only [results, Tryd.results23]
  simp [Result.andThen, h2', h3', asAddr, hl]
theorem run_tailR (A : Option Addr) (m cap : Nat) (w : World) : (Instr.sliceAt 67 (.slice A (m + 1) cap) (some (.int .i64 1)) none none).run Tryd.prog w = .ok (.slice (if cap = 1 then A else A.map (·.add (1 * 13))) (m + 1 - 1) (cap - 1)) w := by
  have hu : Tryd.prog.underlying 67 = some (.slice (Tryd.prog.elem 67)) := by kernel_rfl
  have hs : (sizeOf (Tryd.prog.elem 67)).run Tryd.prog w = .ok 13 w := by kernel_rfl
  rw [run_sliceAt_slice w 67 _ _ _ _ hu, run_slice_l w 67 A (m + 1) cap hu .i64 1 (by omega) (by omega), hs]
  rfl
section
variable {w0 w w' : World} {L : List HP} {b g : Nat} {F : Fr} {c : St}
set_option maxRecDepth 100000 in
set_option maxHeartbeats 4000000 in
theorem takeR_f (h : Heap w0 w (HP.rf b g F :: L)) (h8 : F.q.length ≤ 8) :
    Calls Tryd.prog 23 #[.pointer (some ⟨b, 0, none⟩)] w fun r w' => r = .returned (.tuple #[.agg (itl (headI F)).toArray, .bool (!F.q.isEmpty)]) ∧ Heap w0 w' (HP.rf b g (takeF F) :: L) := by
  obtain ⟨i0, hi0, hz0, hz1, hz2⟩ := info_parts info61
  obtain ⟨hs, A1, c1, A, cap, ho, h⟩ := h.rfo
  have HO := hide ho
  clear ho
  unfold RB rfv at h
  have J := h.new ([.int .u64 0, .int .u32 0, .int .u32 0, .int .i64 0, .int .u64 0, .int .u64 0, .int .u64 0, .int .u64 0, .int .u64 0, .int .u64 0, .int .u64 0, .int .i64 0, .int .u64 0] : List Value).toArray 61
  obtain ⟨r, hr⟩ : ∃ r, w.heap.size = r := ⟨_, rfl⟩
  rw [hr] at J
  obtain ⟨w1, hw1⟩ : ∃ w1, w.alloc (.cells ([.int .u64 0, .int .u32 0, .int .u32 0, .int .i64 0, .int .u64 0, .int .u64 0, .int .u64 0, .int .u64 0, .int .u64 0, .int .u64 0, .int .u64 0, .int .i64 0, .int .u64 0] : List Value).toArray 61) = w1 := ⟨_, rfl⟩
  rw [hw1] at J
  have d4 : w1.cell? ⟨b, 4, none⟩ = some (.slice A F.q.length cap) := (cell_blk (Heap.heap J.f2) 4).1
  have d4f := (cell_blk (Heap.heap J.f2) 4).2
  have hbl := lt_of_heap' (Heap.heap J.f2)
  have hrl := lt_of_heap' (Heap.heap J)
  clear h
  rcases hq : F.q with _ | ⟨y, q'⟩
  · have e1 : headI F = zeroI := by unfold headI; rw [hq]; rfl
    have e2 : takeF F = F := takeF_nil hq
    rw [e1, e2]
    have hJ4 := J.sets ([.int .u64 0, .int .u32 0, .int .u32 0, .int .i64 0, .int .u64 0, .int .u64 0, .int .u64 0, .int .u64 0, .int .u64 0, .int .u64 0, .int .u64 0, .int .i64 0, .int .u64 0] : List Value) 0
    rw [setL_all _ _ (by rfl)] at hJ4
    have Ht := hide (there_blk (Heap.heap J) (o := 0) (n := 13) (by decide))
    have HJ4 := hide hJ4
    rw [hq] at d4
    simp only [List.length_nil] at d4
    have Hq := hide hq
    clear J hJ4 hq e1 e2
    go_enter Tryd.func23, Tryd.ntmps23
    go_wp2_with (refine wpList_store_mid rfl 61 (.tmp 2) (.tmp 11) rfl r 0 #[.int .u64 0, .int .u32 0, .int .u32 0, .int .i64 0, .int .u64 0, .int .u64 0, .int .u64 0, .int .u64 0, .int .u64 0, .int .u64 0, .int .u64 0, .int .i64 0, .int .u64 0] rfl rfl ?_ (by kernel_rfl) (by kernel_rfl) ?_
                 rotate_left
                 refine unhide ?_)
    rotate_left
    · exact unhide Ht
    have hJ4 := unhide HJ4
    change Hid (wpList _ _ _ _ _ (w1.setCells r 0 [.int .u64 0, .int .u32 0, .int .u32 0, .int .i64 0, .int .u64 0, .int .u64 0, .int .u64 0, .int .u64 0, .int .u64 0, .int .u64 0, .int .u64 0, .int .i64 0, .int .u64 0]))
    generalize w1.setCells r 0 [.int .u64 0, .int .u32 0, .int .u32 0, .int .i64 0, .int .u64 0, .int .u64 0, .int .u64 0, .int .u64 0, .int .u64 0, .int .u64 0, .int .u64 0, .int .i64 0, .int .u64 0] = W4 at hJ4 ⊢
    have H5 := hide hJ4
    clear HJ4 Ht hJ4 d4 d4f
    refine hide ?_
    go_wp2_with fail
    refine bodyPost_ret (res23 rfl rfl (x := zeroI) (v := false) (Heap.heap (unhide H5))) rfl ?_
    exact ⟨rfl, Heap.rfc hs _ _ (unhide HO) (unhide H5).tail⟩
  · obtain ⟨m, hm⟩ : ∃ m, q'.length = m := ⟨_, rfl⟩
    have e1 : headI F = y := by unfold headI; rw [hq]; rfl
    have e3 : (takeF F).q = q' := by unfold takeF; rw [hq]; rfl
    rw [e1]
    rw [hq] at d4 J h8
    simp only [List.length_cons, hm] at d4 J h8
    have Hm0 := hide hm
    obtain ⟨g1, o1, cap3, hv1, _⟩ := J.f4.slw.addr (by omega)
    obtain ⟨hA, _⟩ : A = some ⟨g1, o1, none⟩ ∧ True := by
      injection hv1 with h1 _ _
      exact ⟨h1, trivial⟩
    subst hA
    have Hq := hide (show w1.rangeAt g1 o1 (itl y) from by
      have := item_at (k := 0) J.f4.slw (q := y :: q') rfl
      rw [Nat.zero_mul, Nat.add_zero] at this
      exact this)
    have hg1 := J.f4.slw.blk_lt (g := g1) rfl
    have hN := J.clone #[.int .u64 0, .int .u32 0, .int .u32 0, .int .i64 0, .int .u64 0, .int .u64 0, .int .u64 0, .int .u64 0, .int .u64 0, .int .u64 0, .int .u64 0, .int .i64 0, .int .u64 0] 61 (itl y) rfl
    obtain ⟨k4, hk4⟩ : ∃ k, w1.heap.size = k := ⟨_, rfl⟩
    rw [hk4] at hN
    have HN := hide hN
    have Ht := hide (show (w1.alloc (.cells #[.int .u64 0, .int .u32 0, .int .u32 0, .int .i64 0, .int .u64 0, .int .u64 0, .int .u64 0, .int .u64 0, .int .u64 0, .int .u64 0, .int .u64 0, .int .i64 0, .int .u64 0] 61)).there k4 0 (itl y).toArray.size from by rw [← hk4]; exact there_new _ _ _ rfl)
    have E3 := hide e3
    clear hN J hv1 e1 hq hm e3
    go_enter Tryd.func23, Tryd.ntmps23
    go_wp2_with (first
      | refine wpList_load_mid rfl 61 _ rfl g1 o1 rfl (itl y) _ (unhide Hq) Tryd.underlying61 rfl (by kernel_rfl) ?_
      | (refine wpList_store_mid rfl 61 (.tmp 4) (.tmp 17) rfl k4 0 (itl y).toArray rfl rfl (unhide Ht) (by kernel_rfl) (all_oneCell_toArray (itl_cell y)) ?_
         refine unhide ?_))
    have hN := unhide HN
    change Hid (wpList _ _ _ _ _ ((w1.alloc (.cells #[.int .u64 0, .int .u32 0, .int .u32 0, .int .i64 0, .int .u64 0, .int .u64 0, .int .u64 0, .int .u64 0, .int .u64 0, .int .u64 0, .int .u64 0, .int .i64 0, .int .u64 0] 61)).setCells k4 0 (itl y)))
    generalize (w1.alloc (.cells #[.int .u64 0, .int .u32 0, .int .u32 0, .int .i64 0, .int .u64 0, .int .u64 0, .int .u64 0, .int .u64 0, .int .u64 0, .int .u64 0, .int .u64 0, .int .i64 0, .int .u64 0] 61)).setCells k4 0 (itl y) = W2 at hN ⊢
    clear HN Ht hk4 d4 d4f hbl hrl hw1 hr Hq hg1
    have J := hN.emptyW (sz := 13) 61
    obtain ⟨ke, hke⟩ : ∃ k, W2.heap.size = k := ⟨_, rfl⟩
    rw [hke] at J
    obtain ⟨W3, hW3⟩ : ∃ W3, W2.alloc (.cells #[] 61) = W3 := ⟨_, rfl⟩
    rw [hW3] at J
    have d4 : W3.cell? ⟨b, 4, none⟩ = some (.slice (some ⟨g1, o1, none⟩) (m + 1) cap) := (cell_blk (Heap.heap J.f4) 4).1
    have hbl := lt_of_heap' (Heap.heap J.f4)
    obtain ⟨A2, hA2⟩ : ∃ A2 : Option Addr, (if cap = 1 then some ⟨g1, o1, none⟩ else (some ⟨g1, o1, none⟩ : Option Addr).map (·.add (1 * 13))) = A2 := ⟨_, rfl⟩
    have hs : ∀ w, (Instr.sliceAt 67 (.slice (some ⟨g1, o1, none⟩) (m + 1) cap) (some (.int .i64 1)) none none).run Tryd.prog w = .ok (.slice A2 m (cap - 1)) w := fun w => by rw [run_tailR, hA2]; rfl
    have hTl : Sl W3 13 (.slice A2 m (cap - 1)) m (itsC q') := by
      have := J.f6.slw.tail (k := 1) (by omega)
      rw [hA2, itsC_tail] at this
      exact this
    have HTl := hide hTl
    have HJ := hide J
    clear hN J hA2 hTl
    refine hide ?_
    go_wp2_with (at_builtin; refine wpList_append_sl (n := 0) (m := m) rfl _ _ 67 rfl 61 i0 _ 13 96 Tryd.underlying67 hi0 hz0 hz1 hz2 rfl rfl rfl (unhide HJ).slw (unhide HTl) (itsC_cell _) (by omega) (by omega) ?_; intro v' W5 hsl hgr hblk hsp; rw [Nat.zero_add, List.nil_append] at hsl; obtain ⟨A9, cap9, rfl, _⟩ := hsl.parts; have hA := (unhide HJ).appendw hsl hgr hblk; clear HJ hsl hgr hblk hsp; refine unhide ?_)
    clear d4 hbl HTl hs hke hW3
    have d4 : W5.cell? ⟨b, 4, none⟩ = some (.slice (some ⟨g1, o1, none⟩) (m + 1) cap) := (cell_blk (Heap.heap hA.f4) 4).1
    have d4f := (cell_blk (Heap.heap hA.f4) 4).2
    have hbl := lt_of_heap' (Heap.heap hA.f4)
    have h5 := hA.f4.setl 4 (.slice A9 m cap9)
    have H5 := hide h5
    clear hA h5
    refine hide ?_
    go_upto_region 5 with fail
    clear d4 d4f hbl
    have h5 := unhide H5
    generalize W5.setCell ⟨b, 4, none⟩ (.slice A9 m cap9) = W6 at h5 ⊢
    have Hk := hide (range_blk (Heap.heap h5.f3) 0 13 (itl y) rfl)
    have Ht := hide (there_blk (Heap.heap h5.f4) (o := 0) (n := 13) (by decide))
    have h6 := h5.f4.sets (itl y) 0
    rw [setL_all _ _ (by rfl)] at h6
    have H6 := hide h6
    clear h5 h6 H5
    go_wp2_with (refine wpList_load_mid rfl 61 (.tmp 4) rfl k4 0 rfl (itl y) _ (unhide Hk) Tryd.underlying61 rfl (by kernel_rfl) ?_
                 refine unhide ?_)
    refine hide ?_
    clear Hk
    go_wp2_with (refine wpList_store_mid rfl 61 (.tmp 2) (.tmp 28) rfl r 0 (itl y).toArray rfl rfl ?_ (by kernel_rfl) (all_oneCell_toArray (itl_cell y)) ?_
                 rotate_left
                 refine unhide ?_)
    rotate_left
    · exact unhide Ht
    have h6 := unhide H6
    change Hid (wpList _ _ _ _ _ (W6.setCells r 0 (itl y)))
    generalize W6.setCells r 0 (itl y) = W7 at h6 ⊢
    have H7 := hide h6
    clear H6 Ht h6
    refine hide ?_
    go_wp2_with fail
    refine bodyPost_ret (res23 rfl rfl (x := y) (v := true) (Heap.heap (unhide H7))) rfl ?_
    refine ⟨rfl, Heap.rfc hs (.slice A1 hs.length c1) (.slice A9 m cap9) (unhide HO) ?_⟩
    unfold RB
    rw [unhide E3, unhide Hm0]
    exact (Heap.sort (L1 := [_, _, _, _, _, _]) (L2 := [_, _, _, _, _, _]) (M := L) (unhide H7) [0, 3, 5, 1, 4, 2] rfl rfl (by decide)).tail.tail.tail
end
end Go.Proofs.YtblbgalpkodibaaDoor
