/- Layer 15: New, of both tables; places that are free. -/
import Derived.Test.YtlkkmpfhhfaioaaT4
namespace Go.Proofs.Ytlkkmpfhhfaioaa
open Go.RowKit

def S0 : Slots := fun _ => none
theorem S0_inv : Inv S0 := ⟨by simp [S0], by simp [S0]⟩
theorem tcs0 (seed : Int) (bm : Nat) : (tcs seed bm S0).toArray = #[.int .u64 seed, .map (some bm), .int .u64 0, .int .i64 0, .int .u64 0, .bool false, .int .u64 0, .int .u64 0, .int .i64 0, .int .u64 0, .bool false, .int .u64 0,
  .int .u64 0, .int .i64 0, .int .u64 0, .bool false, .int .u64 0, .int .u64 0, .int .i64 0, .int .u64 0, .bool false, .int .u64 0, .int .u64 0, .int .i64 0, .int .u64 0, .bool false, .int .u64 0,
  .int .u64 0, .int .i64 0, .int .u64 0, .bool false, .int .u64 0, .int .u64 0, .int .i64 0, .int .u64 0, .bool false, .int .u64 0, .int .u64 0, .int .i64 0, .int .u64 0, .bool false, .int .u64 0,
  .bool false, .bool false, .bool false, .bool false, .bool false, .bool false, .bool false, .bool false] := by kernel_rfl
theorem plF0 : plF S0 = fun _ => none := by
  funext k
  unfold plF
  have : place S0 k = none := by unfold place; rw [List.find?_eq_none]; intro x _; simp [S0]
  rw [this]; rfl
section
variable {w0 w : World} {L : List HP} {seed : Int}
set_option maxRecDepth 100000 in
set_option maxHeartbeats 1000000 in
theorem new_h (h : Heap w0 w L) (h0 : 0 ≤ seed) (h1 : seed < 18446744073709551616) :
    Calls Try.prog 9 #[.int .u64 seed] w fun r w' => ∃ b, r = .returned (.pointer (some ⟨b, 0, none⟩)) ∧ Heap w0 w' (HP.tl b seed S0 :: L) := by
  have J1 := h.mpNew K.enc K.ok
  have hmm := @run_makeMap Try.prog
  go_enter Try.func9, Try.ntmps9
  go_wp2
  go_ret
  refine ⟨_, rfl, Heap.tl.2 ⟨w.heap.size, ⟨S0_inv, h0, h1⟩, ?_⟩⟩
  rw [plF0, tcs0]
  have hz : w.heap.size + 1 = (w.alloc (.map #[] 0)).heap.size := by simp
  rw [hz]
  exact J1.new _ _

theorem L40_0 : L40 S0 = (List.replicate 8 [Value.int .u64 0, .int .i64 0, .int .u64 0, .bool false, .int .u64 0]).flatten := by kernel_rfl
theorem L8_0 : L8 S0 = List.replicate 8 (.bool false) := by kernel_rfl
set_option maxRecDepth 100000 in
theorem mk46 (w : World) : (Instr.makeSlice 46 (.int .i64 8) (.int .i64 8)).run Try.prog w = .ok (.slice (some ⟨w.heap.size, 0, none⟩) 8 8) (w.alloc (.cells (L40 S0).toArray 36)) := by kernel_rfl
set_option maxRecDepth 100000 in
theorem mk59 (w : World) : (Instr.makeSlice 59 (.int .i64 8) (.int .i64 8)).run Try.prog w = .ok (.slice (some ⟨w.heap.size, 0, none⟩) 8 8) (w.alloc (.cells (L8 S0).toArray 4)) := by kernel_rfl
set_option maxRecDepth 100000 in
set_option maxHeartbeats 1000000 in
theorem newR_h (h : Heap w0 w L) (h0 : 0 ≤ seed) (h1 : seed < 18446744073709551616) :
    Calls Try.prog 10 #[.int .u64 seed] w fun r w' => ∃ b, r = .returned (.pointer (some ⟨b, 0, none⟩)) ∧ Heap w0 w' (HP.tr b seed S0 :: L) := by
  go_enter Try.func10, Try.ntmps10
  go_wp2
  refine wp_region_F (fun w_ => GN w w_) GN (fun k_ v_ w_ => match k_ with
      | 0 => ∃ g, v_ = .slice (some ⟨g, 0, none⟩) 8 8 ∧ w.heap.size ≤ g ∧ w_.heap[g]? = some (.cells (L40 S0).toArray 36 (0, 0))
      | 1 => ∃ g, v_ = .slice (some ⟨g, 0, none⟩) 8 8 ∧ w.heap.size ≤ g ∧ w_.heap[g]? = some (.cells (L8 S0).toArray 4 (0, 0))
      | 2 => v_ = .int .u64 seed
      | 3 => ∃ g g' : Nat, v_ = .agg #[.slice (some ⟨g, 0, none⟩) 8 8, .slice (some ⟨g', 0, none⟩) 8 8, .int .u64 seed] ∧ w.heap.size ≤ g ∧ w.heap.size ≤ g' ∧ w_.heap[g]? = some (.cells (L40 S0).toArray 36 (0, 0)) ∧ w_.heap[g']? = some (.cells (L8 S0).toArray 4 (0, 0))
      | 4 => ∃ b, v_ = .pointer (some ⟨b, 0, none⟩) ∧ w.heap.size ≤ b ∧ ∃ g g' : Nat, w_.heap[b]? = some (.cells #[.slice (some ⟨g, 0, none⟩) 8 8, .slice (some ⟨g', 0, none⟩) 8 8, .int .u64 seed] 61 (0, 0)) ∧ w.heap.size ≤ g ∧ w.heap.size ≤ g' ∧ w_.heap[g]? = some (.cells (L40 S0).toArray 36 (0, 0)) ∧ w_.heap[g']? = some (.cells (L8 S0).toArray 4 (0, 0))
      | _ => ∃ b, v_ = .pointer (some ⟨b, 0, none⟩) ∧ w.heap.size ≤ b ∧ ∃ g g' : Nat, w_.heap[b]? = some (.cells #[.slice (some ⟨g, 0, none⟩) 8 8, .slice (some ⟨g', 0, none⟩) 8 8, .int .u64 seed] 61 (0, 0)) ∧ w.heap.size ≤ g ∧ w.heap.size ≤ g' ∧ w_.heap[g]? = some (.cells (L40 S0).toArray 36 (0, 0)) ∧ w_.heap[g']? = some (.cells (L8 S0).toArray 4 (0, 0))) fol (by kernel_rfl) ?_ ?_ ?_ ?_
  · exact (GN.refl w).drew
  · intro k_ v_ w_ w2_ h1 hg
    split at h1 <;> first | exact h1 | (obtain ⟨g, e, r1, r2⟩ := h1; exact ⟨g, e, r1, hg.heap r2⟩) | (obtain ⟨g, g', e, r1, r1', r2, r2'⟩ := h1; exact ⟨g, g', e, r1, r1', hg.heap r2, hg.heap r2'⟩) | (obtain ⟨b, e, q, g, g', e', r1, r1', r2, r2'⟩ := h1; exact ⟨b, e, q, g, g', hg.heap e', r1, r1', hg.heap r2, hg.heap r2'⟩)
  · intro vals
    show wpG _ _ _ _ _ _ 0 (_ :: _) _
    refine wpG_cons (gmake fun w_ hJ hd => ?_) ?_
    · exact ⟨by kernel_rfl, _, _, run_val (mk46 w_), hJ.alloc _, grown_b1 _ _, w_.heap.size, rfl, hJ.size, heap_new' _ _⟩
    refine wpG_cons (gmake fun w_ hJ hd => ?_) ?_
    · exact ⟨by kernel_rfl, _, _, run_val (mk59 w_), hJ.alloc _, grown_b1 _ _, w_.heap.size, rfl, hJ.size, heap_new' _ _⟩
    refine wpG_cons (gval (.int .u64 seed) GN.refl fun w_ hJ hd => ?_) ?_
    · exact ⟨by kernel_rfl, by kernel_rfl, rfl⟩
    refine wpG_cons (gmake fun w_ hJ hd => ?_) ?_
    · have e0 : ∃ g, (vals 0) = .slice (some ⟨g, 0, none⟩) 8 8 ∧ w.heap.size ≤ g ∧ w_.heap[g]? = some (.cells (L40 S0).toArray 36 (0, 0)) := hd 0 (by decide) (by kernel_rfl)
      have e1 : ∃ g, (vals 1) = .slice (some ⟨g, 0, none⟩) 8 8 ∧ w.heap.size ≤ g ∧ w_.heap[g]? = some (.cells (L8 S0).toArray 4 (0, 0)) := hd 1 (by decide) (by kernel_rfl)
      have e2 : vals 2 = _ := hd 2 (by decide) (by kernel_rfl)
      rw [e2]
      obtain ⟨g, eg, hg1, hg2⟩ := e0
      obtain ⟨g', eg', hg1', hg2'⟩ := e1
      rw [eg, eg']
      exact ⟨by kernel_rfl, _, _, (by kernel_rfl), hJ, GN.refl _, g, g', rfl, hg1, hg1', hg2, hg2'⟩
    refine wpG_cons (gmake fun w_ hJ hd => ?_) ?_
    · have e3 : ∃ g g' : Nat, (vals 3) = .agg #[.slice (some ⟨g, 0, none⟩) 8 8, .slice (some ⟨g', 0, none⟩) 8 8, .int .u64 seed] ∧ w.heap.size ≤ g ∧ w.heap.size ≤ g' ∧ w_.heap[g]? = some (.cells (L40 S0).toArray 36 (0, 0)) ∧ w_.heap[g']? = some (.cells (L8 S0).toArray 4 (0, 0)) := hd 3 (by decide) (by kernel_rfl)
      obtain ⟨g, g', eg, hg1, hg1', hg2, hg2'⟩ := e3
      rw [eg]
      exact ⟨by kernel_rfl, _, _, (by kernel_rfl), hJ.alloc (.cells #[.slice (some ⟨g, 0, none⟩) 8 8, .slice (some ⟨g', 0, none⟩) 8 8, .int .u64 seed] 61), grown_b1 _ _, w_.heap.size, rfl, hJ.size, g, g', heap_new' _ _, hg1, hg1', (grown_b1 _ _).heap hg2, (grown_b1 _ _).heap hg2'⟩
    refine wpG_cons (gmake fun w_ hJ hd => ?_) wpG_nil
    · have e4 : ∃ b, (vals 4) = .pointer (some ⟨b, 0, none⟩) ∧ w.heap.size ≤ b ∧ ∃ g g' : Nat, w_.heap[b]? = some (.cells #[.slice (some ⟨g, 0, none⟩) 8 8, .slice (some ⟨g', 0, none⟩) 8 8, .int .u64 seed] 61 (0, 0)) ∧ w.heap.size ≤ g ∧ w.heap.size ≤ g' ∧ w_.heap[g]? = some (.cells (L40 S0).toArray 36 (0, 0)) ∧ w_.heap[g']? = some (.cells (L8 S0).toArray 4 (0, 0)) := hd 4 (by decide) (by kernel_rfl)
      obtain ⟨b, eb, hb⟩ := e4
      rw [eb]
      exact ⟨by kernel_rfl, _, _, (by kernel_rfl), hJ, GN.refl _, b, rfl, hb⟩
  · intro vals w_ hJ hf
    have e2 : vals 2 = _ := hf 2 (by decide)
    have e5 : ∃ b, (vals 5) = .pointer (some ⟨b, 0, none⟩) ∧ w.heap.size ≤ b ∧ ∃ g g' : Nat, w_.heap[b]? = some (.cells #[.slice (some ⟨g, 0, none⟩) 8 8, .slice (some ⟨g', 0, none⟩) 8 8, .int .u64 seed] 61 (0, 0)) ∧ w.heap.size ≤ g ∧ w.heap.size ≤ g' ∧ w_.heap[g]? = some (.cells (L40 S0).toArray 36 (0, 0)) ∧ w_.heap[g']? = some (.cells (L8 S0).toArray 4 (0, 0)) := hf 5 (by decide)
    simp only [fillG, Nat.zero_add, Nat.reduceAdd, e2, Act.put, List.setIfInBounds_toArray, List.set_cons_succ, List.set_cons_zero]
    clear e2 hf
    generalize vals 0 = v0
    generalize vals 1 = v1
    generalize vals 3 = v3
    generalize vals 4 = v4
    generalize vals 5 = v5 at *
    obtain ⟨b, rfl, hb0, g, g', hb, hg0, hg0', hg, hg'⟩ := e5
    have n1 := blk_ne hb hg (by intro e; injection e with _ e; cases e)
    have n2 := blk_ne hb hg' (by intro e; injection e with _ e; cases e)
    have n3 := blk_ne hg' hg (by intro e; injection e with _ e; cases e)
    have hm := h.fresh3 hJ hb hb0 (sl_blk (n := 8) (sz := 5) hg (by simp [L40])) (sl_blk (n := 8) (sz := 1) hg' (by simp [L8])) (fun x hx => by injection hx with hx; exact hx ▸ hg0) (fun x hx => by injection hx with hx; exact hx ▸ hg0')
      (fun e => by injection e with e; exact n1 e) (fun e => by injection e with e; exact n2 e) (fun e => by injection e with e; exact n3 e)
    go_wp2
    go_ret
    exact ⟨b, rfl, Heap.tr.2 ⟨(_, _), ⟨S0_inv, h0, h1⟩, hm⟩⟩
end
end Go.Proofs.Ytlkkmpfhhfaioaa
