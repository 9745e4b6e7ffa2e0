/- Layer 15: Copy. -/
import Derived.Test.YtlkkmpfhhfaioaaT15
import Derived.Test.YtlkkmpfhhfaioaaRanges
namespace Go.Proofs.Ytlkkmpfhhfaioaa
open Go.RowKit

theorem isz58 : (Try.prog.info? 58).map (·.size) = some 50 := by kernel_rfl
theorem tcs_len (seed : Int) (bm : Nat) (S : Slots) : (tcs seed bm S).length = 50 := by simp [tcs]
theorem tcs_one (seed : Int) (bm : Nat) (S : Slots) : (tcs seed bm S).toArray.all (·.oneCell') = true := by
  rw [Array.all_eq_true_iff_forall_mem]
  intro y hy
  simp only [List.mem_toArray, tcs, List.mem_map, List.mem_range] at hy
  obtain ⟨i, hi, rfl⟩ := hy
  split
  · rfl
  · split
    · rfl
    · split
      · exact cs_one _ _ (by
          have h5 : (i - 2) % 5 < 5 := by omega
          rw [List.getD_eq_getElem?_getD, List.getElem?_eq_getElem (by simpa [E.cs] using h5)]
          exact List.getElem_mem _)
      · rfl
theorem tcs_bm (seed : Int) (bm bm' : Nat) (S : Slots) : (tcs seed bm S).set 1 (.map (some bm')) = tcs seed bm' S := by
  apply List.ext_getElem?
  intro i
  rw [List.getElem?_set, tcs_get, tcs_get, tcs_len]
  by_cases h : 1 = i
  · subst h; simp
  · rw [if_neg h]
    have h0 : ¬ i = 1 := fun e => h e.symm
    rw [if_neg h0, if_neg h0]
theorem setL_all (xs vs : List Value) (h : vs.length = xs.length) : setL xs 0 vs = vs := by
  apply List.ext_getElem?
  intro i
  rw [setL_get _ _ _ _ (by omega)]
  by_cases hi : i < vs.length
  · rw [if_pos (by omega), Nat.sub_zero]
  · rw [if_neg (by omega), List.getElem?_eq_none (by omega), List.getElem?_eq_none (by omega)]
theorem Heap.drewOr {w0 w w' : World} {L : List HP} (h : Heap w0 w L) (hw : w' = w ∨ w' = w.drew) : Heap w0 w' L := by
  rcases hw with rfl | rfl
  · exact h
  · exact h.drew
def leftM (bm r : Nat) (w : World) : Nat := match w.heap[r]?, w.heap[bm]? with
  | some (.mapIter _ _ seen _), some (.map es _) => (leftOf es seen).size
  | _, _ => 0
theorem there_new (w : World) (Z : Array Value) (T : TypeId) {n : Nat} (hz : Z.size = n) : (w.alloc (.cells Z T)).there w.heap.size 0 n := fun j hj => by
  have hh := heap_new' w (.cells Z T)
  unfold World.cell? World.frozen?
  simp only [hh, Nat.zero_add, Array.getElem?_eq_getElem (show j < Z.size by omega)]
  simp
theorem Heap.clone {w0 w : World} {L : List HP} (h : Heap w0 w L) (Z : Array Value) (T : TypeId) (xs : List Value) (hz : Z.size = xs.length) : Heap w0 ((w.alloc (.cells Z T)).setCells w.heap.size 0 xs) (HP.blk w.heap.size xs.toArray T :: L) := by
  have h1 := h.new Z T
  have e : Z = Z.toList.toArray := by simp
  rw [e] at h1
  have h2 := h1.sets xs 0
  rw [setL_all _ _ (by simpa using hz.symm)] at h2
  simpa using h2
section
variable {w0 w : World} {L : List HP} {seed : Int} {b bm : Nat} {S : Slots}
set_option maxRecDepth 100000 in
set_option maxHeartbeats 1000000 in
theorem copy_k (h : Heap w0 w (HP.blk b (tcs seed bm S).toArray 58 :: HP.mp K.enc K.ok bm (plF S) :: L)) (hI : Inv S) (hsd : 0 ≤ seed ∧ seed < 18446744073709551616) :
    Calls Try.prog 18 #[.pointer (some ⟨b, 0, none⟩)] w fun r w' => ∃ b', r = .returned (.pointer (some ⟨b', 0, none⟩)) ∧ Heap w0 w' (HP.tl b' seed S :: HP.tl b seed S :: L) := by
  have hrg := range_blk h.heap 0 50 (tcs seed bm S) (by rw [List.drop_zero]; exact List.take_of_length_le (by rw [tcs_len]; exact Nat.le_refl _))
  have hmm := @run_makeMap Try.prog
  go_enter Try.func18, Try.ntmps18
  go_wp2_with (first
    | refine wpList_load_mid rfl 58 _ rfl b 0 rfl (tcs seed bm S) _ hrg Try.underlying58 rfl (by rw [tcs_len]; exact isz58) ?_
    | (refine wpList_store_mid rfl 58 (.tmp 3) (.tmp 8) rfl w.heap.size 0 (tcs seed bm S).toArray rfl rfl ?_ (by rw [List.size_toArray, tcs_len]; exact isz58) (tcs_one _ _ _) ?_
       rotate_left
       refine unhide ?_))
  rotate_left
  · exact there_new _ _ _ (Eq.trans (rfl : _ = 50) (by rw [List.size_toArray, tcs_len]))
  generalize hw1 : World.setCells _ w.heap.size 0 (tcs seed bm S).toArray.toList = w1
  have hJ1 : Heap w0 w1 (HP.blk w.heap.size (tcs seed bm S).toArray 58 :: HP.blk b (tcs seed bm S).toArray 58 :: HP.mp K.enc K.ok bm (plF S) :: L) := by
    rw [← hw1]
    exact h.clone _ _ _ (Eq.trans (rfl : _ = 50) (by rw [tcs_len]))
  clear hrg h hw1
  have hcl := lt_of_heap' hJ1.heap
  have hbl := lt_of_heap' hJ1.f2.heap
  have hne := hJ1.ne
  have c1 := (cell_blk hJ1.heap 1)
  have d1 := (cell_blk hJ1.f2.heap 1)
  rw [tcs_get, if_pos (by omega), if_neg (by omega), if_pos rfl] at c1 d1
  have hJ2 := (hJ1.setl 1 (.map (some w1.heap.size))).mpNew K.enc K.ok
  rw [tcs_bm] at hJ2
  have hsz : (w1.setCell ⟨w.heap.size, 1, none⟩ (.map (some w1.heap.size))).heap.size = w1.heap.size := by simp [World.setCell]
  rw [hsz] at hJ2
  obtain ⟨M, clock, ⟨hg, hF⟩, hJ3⟩ := Heap.mpOb.1 hJ2.f4
  have hr2 := run_range_at (P := Try.prog) Try.underlying54 hJ3.obj
  have hJ4 := hJ3.newOb (.mapIter (some bm) clock #[] clock)
  have hsz2 : ((w1.setCell ⟨w.heap.size, 1, none⟩ (.map (some w1.heap.size))).alloc (.map #[] 0)).heap.size = w1.heap.size + 1 := by simp [World.setCell]
  rw [hsz2] at hr2 hJ4
  have hM : (fun k => look (seenOf M #[]) k) = fun _ : K => none := by funext k; rw [seen_empty]; rfl
  rw [← hM] at hJ4
  have hJ4 := hide hJ4
  clear hsz hsz2 hM hJ1 hJ2 hJ3
  generalize hc2 : w1.heap.size = c2 at *
  generalize hcc : w.heap.size = c at *
  refine hide ?_
  go_wp2
  go_loopw [16] (fun _ wr => ∃ seen : Array Nat, Heap w0 wr (HP.ob (c2 + 1) (.mapIter (some bm) clock seen clock) :: HP.ob bm (.map (M.map (mkE K.enc)).toArray clock) :: HP.mp K.enc K.ok c2 (fun k => look (seenOf M seen) k) :: HP.blk c (tcs seed c2 S).toArray 58 :: HP.blk b (tcs seed bm S).toArray 58 :: L)) (fun _ wr => leftM bm (c2 + 1) wr)
  case atStart => exact ⟨#[], unhide hJ4⟩
  case round =>
    obtain ⟨seen, hJ⟩ := hrel
    clear hJ4
    go_wp2_with (first
      | (refine wpList_next_at rfl _ rfl rfl hJ.obj hJ.f2.obj (by intro x hx; simp at hx; obtain ⟨_, _, _, h1, rfl⟩ := hx; exact hg.lt _ h1) (Nat.le_refl _) ?_ ?_
         all_goals refine unhide ?_))
    · refine hide ?_
      intro h0
      have hFF : (fun k => look (seenOf M seen) k) = plF S := by
        funext k
        rw [seen_all (enc := K.enc) (by first | exact h0 | rw [h0]; rfl)]
        exact hF k
      rw [hFF] at hJ
      have hq := (Heap.mpOb.2 ⟨M, clock, ⟨hg, hF⟩, hJ.tail⟩).f4
      have hq := (Heap.tl.2 ⟨bm, ⟨hI, hsd⟩, hq⟩).f2.f3
      have hq := Heap.tl.2 ⟨c2, ⟨hI, hsd⟩, hq⟩
      have hq := hide hq
      clear h0 hFF hJ hr2 c1 d1
      go_wp2
      go_ret
      exact ⟨c, rfl, unhide hq⟩
    · refine hide ?_
      intro e w4 he hw4
      obtain ⟨⟨⟨ka, kl, kg, ks⟩, v, born⟩, hx, rfl, hs⟩ := left_mem (by simpa using he)
      have hJ5 := (hJ.drewOr hw4).setOb (.mapIter (some bm) clock (seen.push born) clock)
      have hen : (Instr.entry (.pointer (some ⟨c2 + 1, 0, none⟩))).run Try.prog _ = .ok (.tuple #[.agg #[.int .u64 ka, .int .i64 kl, .bool kg, .int .u64 ks], v]) _ := run_entry_at _ (c2 + 1) bm clock seen _ clock (mkE K.enc (⟨ka, kl, kg, ks⟩, v, born)) hJ5.obj hJ5.f2.obj (by simp; exact ⟨_, _, _, hx, rfl⟩) (by simp; exact hg.borns)
      change wpList _ _ _ _ _ (Go.ChangeMaps.setBlock w4 (c2 + 1) (.mapIter (some bm) clock (seen.push born) clock))
      generalize Go.ChangeMaps.setBlock w4 (c2 + 1) (.mapIter (some bm) clock (seen.push born) clock) = w5 at *
      obtain ⟨w7, hr7, hJ7, _⟩ := (hJ5.alloc (.cells #[.int .u64 ka, .int .i64 kl, .bool kg, .int .u64 ks] 64)).f3.mpStore keyLaw (hg.val _ hx) v
      change (Instr.mapUpdate 54 (.map (some c2)) (.agg #[.int .u64 ka, .int .i64 kl, .bool kg, .int .u64 ks]) v).run Try.prog _ = _ at hr7
      have hJ7 := hJ7.b3
      have hFF : (fun k' => if k' = (⟨ka, kl, kg, ks⟩ : K) then some v else look (seenOf M seen) k') = fun k => look (seenOf M (seen.push born)) k := by
        funext k'
        exact (seen_push hg hx k').symm
      rw [hFF] at hJ7
      have hmeas : leftM bm (c2 + 1) w7 < leftM bm (c2 + 1) wr := by
        unfold leftM
        rw [hJ7.obj, hJ7.f2.obj, hJ.obj, hJ.f2.obj]
        exact left_less hx hs
      have hJ7 := hide hJ7
      have hmeas := hide hmeas
      have c5 := cell_blk hJ5.f4.heap 1
      rw [tcs_get, if_pos (by omega), if_neg (by omega), if_pos rfl] at c5
      have hcl5 := lt_of_heap' hJ5.f4.heap
      clear he hw4 hJ hr2 hFF hx hs c1 d1
      simp only [mkE, K.enc]
      go_wp2
      exact ⟨⟨_, unhide hJ7⟩, unhide hmeas⟩
theorem copy_h (h : Heap w0 w (HP.tl b seed S :: L)) :
    Calls Try.prog 18 #[.pointer (some ⟨b, 0, none⟩)] w fun r w' => ∃ b', r = .returned (.pointer (some ⟨b', 0, none⟩)) ∧ Heap w0 w' (HP.tl b' seed S :: HP.tl b seed S :: L) := by
  obtain ⟨bm, ⟨hI, hsd⟩, hh⟩ := Heap.tl.1 h
  exact copy_k hh hI hsd
end
end Go.Proofs.Ytlkkmpfhhfaioaa
