/- Layer 18, the reference: New. -/
import Derived.Test.YtblbgalpkodibaaDoorG13
namespace Go.Proofs.YtblbgalpkodibaaDoor
open Go.RowKit

set_option maxRecDepth 100000 in
theorem mk58 (w : World) : (Instr.makeSlice 83 (.int .i64 16) (.int .i64 16)).run Tryd.prog w = .ok (.slice (some ⟨w.heap.size, 0, none⟩) 16 16) (w.alloc (.cells (rws Z0).toArray 96)) := by kernel_rfl
theorem mk45 (w : World) : (Instr.makeSlice 84 (.int .i64 6) (.int .i64 6)).run Tryd.prog w = .ok (.slice (some ⟨w.heap.size, 0, none⟩) 6 6) (w.alloc (.cells (hts Z0).toArray 3)) := by kernel_rfl
theorem info3 : (Tryd.prog.info? 3).map (fun i => (i.zero, i.size, i.bytes)) = some (some (.int .i64 0), 1, 8) := by kernel_rfl
def ck (s : Int) (k : Nat) : List Value := (List.range k).map fun i => .int .i64 (lcgN (i + 1) s / 4611686018427387904)
theorem ck_up (s : Int) (k : Nat) : ck s (k + 1) = ck s k ++ [.int .i64 (lcgN (k + 1) s / 4611686018427387904)] := by unfold ck; rw [List.range_succ, List.map_append]; rfl
theorem ck_64 (s : Int) : ck s 64 = cts (c0 s) := by
  apply List.ext_getElem?
  intro j
  rw [cts_get]
  unfold ck
  rw [List.getElem?_map]
  by_cases hj : j < 64
  · rw [if_pos hj, List.getElem?_range hj]
    unfold c0
    rw [if_pos (by omega), show 48 + j - 48 + 1 = j + 1 by omega]
    rfl
  · rw [if_neg hj, List.getElem?_eq_none (by simpa using hj)]
    rfl
theorem c0_out (s : Int) (i : Nat) (h : ¬ (48 ≤ i ∧ i < 112)) : c0 s i = Z0 i := by unfold c0 Z0; rw [if_neg h]
section
variable {w0 w : World} {L : List HP}
set_option maxRecDepth 100000 in
set_option maxHeartbeats 1000000 in
theorem newR_h (h : Heap w0 w L) (s : Int) (h0 : 0 ≤ s) (h1 : s < 18446744073709551616) :
    Calls Tryd.prog 19 #[.int .u64 s] w fun r w' => ∃ b, r = .returned (.pointer (some ⟨b, 0, none⟩)) ∧ Heap w0 w' (HP.rg b (c0 s) :: L) := by
  have hbd := hide (fun n => lcgN_bd h0 h1 n)
  obtain ⟨i0, hi, hz0, hz1, hz2⟩ := info_parts info3
  go_enter Tryd.func19, Tryd.ntmps19
  go_wp2
  refine wp_region_F (fun w_ => GN w w_) GN (fun k_ v_ w_ => match k_ with
      | 0 => ∃ g, v_ = .slice (some ⟨g, 0, none⟩) 16 16 ∧ w.heap.size ≤ g ∧ w_.heap[g]? = some (.cells (rws Z0).toArray 96 (0, 0))
      | 1 => ∃ g, v_ = .slice (some ⟨g, 0, none⟩) 6 6 ∧ w.heap.size ≤ g ∧ w_.heap[g]? = some (.cells (hts Z0).toArray 3 (0, 0))
      | 2 => ∃ g g' : Nat, v_ = .agg #[.slice (some ⟨g, 0, none⟩) 16 16, .slice none 0 0, .slice none 0 0, .slice (some ⟨g', 0, none⟩) 6 6] ∧ w.heap.size ≤ g ∧ w.heap.size ≤ g' ∧ w_.heap[g]? = some (.cells (rws Z0).toArray 96 (0, 0)) ∧ w_.heap[g']? = some (.cells (hts Z0).toArray 3 (0, 0))
      | 3 => ∃ b, v_ = .pointer (some ⟨b, 0, none⟩) ∧ w.heap.size ≤ b ∧ ∃ g g' : Nat, w_.heap[b]? = some (.cells #[.slice (some ⟨g, 0, none⟩) 16 16, .slice none 0 0, .slice none 0 0, .slice (some ⟨g', 0, none⟩) 6 6] 87 (0, 0)) ∧ w.heap.size ≤ g ∧ w.heap.size ≤ g' ∧ w_.heap[g]? = some (.cells (rws Z0).toArray 96 (0, 0)) ∧ w_.heap[g']? = some (.cells (hts Z0).toArray 3 (0, 0))
      | _ => ∃ b, v_ = .pointer (some ⟨b, 0, none⟩) ∧ w.heap.size ≤ b ∧ ∃ g g' : Nat, w_.heap[b]? = some (.cells #[.slice (some ⟨g, 0, none⟩) 16 16, .slice none 0 0, .slice none 0 0, .slice (some ⟨g', 0, none⟩) 6 6] 87 (0, 0)) ∧ w.heap.size ≤ g ∧ w.heap.size ≤ g' ∧ w_.heap[g]? = some (.cells (rws Z0).toArray 96 (0, 0)) ∧ w_.heap[g']? = some (.cells (hts Z0).toArray 3 (0, 0))) fol (by kernel_rfl) ?_ ?_ ?_ ?_
  · exact (GN.refl w).drew
  · intro k_ v_ w_ w2_ h1 hg
    split at h1 <;> first | exact h1 | (obtain ⟨g, e, r1, r2⟩ := h1; exact ⟨g, e, r1, hg.heap r2⟩) | (obtain ⟨g, g', e, r1, r1', r2, r2'⟩ := h1; exact ⟨g, g', e, r1, r1', hg.heap r2, hg.heap r2'⟩) | (obtain ⟨b, e, q, g, g', e', r1, r1', r2, r2'⟩ := h1; exact ⟨b, e, q, g, g', hg.heap e', r1, r1', hg.heap r2, hg.heap r2'⟩)
  · intro vals
    show wpG _ _ _ _ _ _ 0 (_ :: _) _
    refine wpG_cons (gmake fun w_ hJ hd => ?_) ?_
    · exact ⟨by kernel_rfl, _, _, run_val (mk58 w_), hJ.alloc _, grown_b1 _ _, w_.heap.size, rfl, hJ.size, heap_new' _ _⟩
    refine wpG_cons (gmake fun w_ hJ hd => ?_) ?_
    · exact ⟨by kernel_rfl, _, _, run_val (mk45 w_), hJ.alloc _, grown_b1 _ _, w_.heap.size, rfl, hJ.size, heap_new' _ _⟩
    refine wpG_cons (gmake fun w_ hJ hd => ?_) ?_
    · have e0 : ∃ g, (vals 0) = .slice (some ⟨g, 0, none⟩) 16 16 ∧ w.heap.size ≤ g ∧ w_.heap[g]? = some (.cells (rws Z0).toArray 96 (0, 0)) := hd 0 (by decide) (by kernel_rfl)
      have e1 : ∃ g, (vals 1) = .slice (some ⟨g, 0, none⟩) 6 6 ∧ w.heap.size ≤ g ∧ w_.heap[g]? = some (.cells (hts Z0).toArray 3 (0, 0)) := hd 1 (by decide) (by kernel_rfl)
      obtain ⟨g, eg, hg1, hg2⟩ := e0
      obtain ⟨g', eg', hg1', hg2'⟩ := e1
      rw [eg, eg']
      exact ⟨by kernel_rfl, _, _, (by kernel_rfl), hJ, GN.refl _, g, g', rfl, hg1, hg1', hg2, hg2'⟩
    refine wpG_cons (gmake fun w_ hJ hd => ?_) ?_
    · have e2 : ∃ g g' : Nat, (vals 2) = .agg #[.slice (some ⟨g, 0, none⟩) 16 16, .slice none 0 0, .slice none 0 0, .slice (some ⟨g', 0, none⟩) 6 6] ∧ w.heap.size ≤ g ∧ w.heap.size ≤ g' ∧ w_.heap[g]? = some (.cells (rws Z0).toArray 96 (0, 0)) ∧ w_.heap[g']? = some (.cells (hts Z0).toArray 3 (0, 0)) := hd 2 (by decide) (by kernel_rfl)
      obtain ⟨g, g', eg, hg1, hg1', hg2, hg2'⟩ := e2
      rw [eg]
      exact ⟨by kernel_rfl, _, _, (by kernel_rfl), hJ.alloc (.cells #[.slice (some ⟨g, 0, none⟩) 16 16, .slice none 0 0, .slice none 0 0, .slice (some ⟨g', 0, none⟩) 6 6] 87), grown_b1 _ _, w_.heap.size, rfl, hJ.size, g, g', heap_new' _ _, hg1, hg1', (grown_b1 _ _).heap hg2, (grown_b1 _ _).heap hg2'⟩
    refine wpG_cons (gmake fun w_ hJ hd => ?_) wpG_nil
    · have e3 : ∃ b, (vals 3) = .pointer (some ⟨b, 0, none⟩) ∧ w.heap.size ≤ b ∧ ∃ g g' : Nat, w_.heap[b]? = some (.cells #[.slice (some ⟨g, 0, none⟩) 16 16, .slice none 0 0, .slice none 0 0, .slice (some ⟨g', 0, none⟩) 6 6] 87 (0, 0)) ∧ w.heap.size ≤ g ∧ w.heap.size ≤ g' ∧ w_.heap[g]? = some (.cells (rws Z0).toArray 96 (0, 0)) ∧ w_.heap[g']? = some (.cells (hts Z0).toArray 3 (0, 0)) := hd 3 (by decide) (by kernel_rfl)
      obtain ⟨b, eb, hb⟩ := e3
      rw [eb]
      exact ⟨by kernel_rfl, _, _, (by kernel_rfl), hJ, GN.refl _, b, rfl, hb⟩
  · intro vals w_ hJ hf
    have e4 : ∃ b, (vals 4) = .pointer (some ⟨b, 0, none⟩) ∧ w.heap.size ≤ b ∧ ∃ g g' : Nat, w_.heap[b]? = some (.cells #[.slice (some ⟨g, 0, none⟩) 16 16, .slice none 0 0, .slice none 0 0, .slice (some ⟨g', 0, none⟩) 6 6] 87 (0, 0)) ∧ w.heap.size ≤ g ∧ w.heap.size ≤ g' ∧ w_.heap[g]? = some (.cells (rws Z0).toArray 96 (0, 0)) ∧ w_.heap[g']? = some (.cells (hts Z0).toArray 3 (0, 0)) := hf 4 (by decide)
    simp only [fillG, Nat.zero_add, Nat.reduceAdd, Act.put, List.setIfInBounds_toArray, List.set_cons_succ, List.set_cons_zero]
    clear  hf
    generalize vals 0 = v0
    generalize vals 1 = v1
    generalize vals 2 = v2
    generalize vals 3 = v3
    generalize vals 4 = v4 at *
    obtain ⟨b, rfl, hb0, g, g', hb, hg0, hg0', hg, hg'⟩ := e4
    have n1 := blk_ne hb hg (by intro e; injection e with _ e; cases e)
    have n2 := blk_ne hb hg' (by intro e; injection e with _ e; cases e)
    have n3 := blk_ne hg' hg (by intro e; injection e with _ e; cases e)
    have hm := h.fresh3 hJ hb hb0 (sl_blk (n := 16) (sz := 3) hg (by simp [rws_len])) (sl_blk (n := 6) (sz := 1) hg' (by simp [hts])) (fun x hx => by injection hx with hx; exact hx ▸ hg0) (fun x hx => by injection hx with hx; exact hx ▸ hg0')
      (fun e => by injection e with e; exact n1 e) (fun e => by injection e with e; exact n2 e) (fun e => by injection e with e; exact n3 e)
    have hm2 := (hm.noneS (sz := 1)).f2
    clear n1 n2 n3 hg hg' hb hJ h hm hg0 hg0' hb0
    go_wp2
    go_loopw [4, 0] (fun i sv wr => ∃ (k : Nat) (V2 : Value), i = .int .i64 k ∧ k ≤ 64 ∧ sv = .int .u64 (lcgN k s) ∧ Heap w0 wr (HP.blk b #[.slice (some ⟨g, 0, none⟩) 16 16, V2, .slice none 0 0, .slice (some ⟨g', 0, none⟩) 6 6] 87 :: HP.slw V2 1 k (ck s k) :: HP.slw (.slice (some ⟨g, 0, none⟩) 16 16) 3 16 (rws Z0) :: HP.slw (.slice (some ⟨g', 0, none⟩) 6 6) 1 6 (hts Z0) :: L)) (fun i _ _ => 64 - (intOf i).toNat)
    case atStart => exact ⟨0, _, rfl, Nat.zero_le _, rfl, hm2⟩
    case round =>
      obtain ⟨k, V2, rfl, hk, rfl, hJ⟩ := hrel
      clear hm2
      obtain ⟨A2, cap2, rfl, hcap2⟩ := hJ.f2.slw.parts
      obtain ⟨d0, d1, d2, d3, f0, f1, f2, f3⟩ := cells4f hJ.heap
      have hbl := lt_of_heap' hJ.heap
      by_cases hlt : k < 64
      · obtain ⟨b0, b1⟩ := unhide hbd k
        obtain ⟨x, hx⟩ : ∃ x, lcgN k s = x := ⟨_, rfl⟩
        have hup := hide (ck_up s k)
        rw [show lcgN (k + 1) s = lcg x from by rw [← hx]; rfl] at hup
        rw [hx] at b0 b1 ⊢
        have Hx := hide hx
        clear hx
        have hl : IntKind.u64.wrap (IntKind.u64.wrap (6364136223846793005 * x) + 1442695040888963407) = lcg x := by rw [IntKind.wrap_u64, IntKind.wrap_u64]; unfold lcg; omega
        have hlb := lcg_bd x
        have hl2 : lcg x / 4611686018427387904 < 4 := by omega
        have hl3 : 0 ≤ lcg x / 4611686018427387904 := by omega
        go_wp2_with (at_builtin; refine wpList_append_sl rfl _ _ 84 rfl 3 i0 _ 1 8 Tryd.underlying84 hi hz0 hz1 hz2 rfl rfl rfl (hJ.f2.slw.alloc _) (Sl.single _ 3 (.int .i64 (lcg x / 4611686018427387904)) (by simp)) (by simp; rfl) (by omega) (by omega) ?_; intro v' w' hsl hgr hblk hsp; obtain ⟨A', cap', rfl, _⟩ := hsl.parts; have hJ2 := ((hJ.f2.alloc _).appendw hsl hgr hblk).f2; clear d0 d1 d2 d3 f0 f1 f2 f3 hbl hsl hgr hblk hsp; obtain ⟨d0, d1, d2, d3, f0, f1, f2, f3⟩ := cells4f hJ2.heap; have hbl := lt_of_heap' hJ2.heap)
        have hJ3 := hJ2.set 1 (.slice A' (k + 1) cap')
        rw [← unhide hup] at hJ3
        refine ⟨⟨k + 1, _, by go_num, by omega, by rw [← unhide Hx]; rfl, hJ3⟩, by simp [intOf]; omega⟩
      · obtain rfl : k = 64 := by omega
        go_wp2
        go_ret
        rw [ck_64] at hJ
        have hI := c0_inv h0 h1
        have e1 : rws Z0 = rws (c0 s) := rws_congr fun i hi => (c0_out s i (by omega)).symm
        have e2 : hts Z0 = hts (c0 s) := hts_congr (c0_out s 117 (by omega)).symm
        rw [e1, e2] at hJ
        exact ⟨b, rfl, Heap.rg.2 ⟨(_, _, .slice none 0 0, _), hI, (hJ.f4.soften.noneS (sz := 1)).f3.f5.f2.f5.b3⟩⟩
end
end Go.Proofs.YtblbgalpkodibaaDoor
