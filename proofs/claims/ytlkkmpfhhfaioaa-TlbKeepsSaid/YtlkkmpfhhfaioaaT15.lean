/- Layer 15, the reference: All, Copy. -/
import Derived.Test.YtlkkmpfhhfaioaaT14
namespace Go.Proofs.Ytlkkmpfhhfaioaa
open Go.RowKit

theorem info4 : (Try.prog.info? 4).map (fun i => (i.zero, i.size, i.bytes)) = some (some (.bool false), 1, 1) := by kernel_rfl
section
variable {w0 w : World} {L : List HP} {seed : Int} {b g1 o1 c1 g2 o2 c2 : Nat} {S : Slots} {e : E}
set_option maxRecDepth 100000 in
set_option maxHeartbeats 1000000 in
theorem allR_k (h : Heap w0 w (HP.blk b #[.slice (some ⟨g1, o1, none⟩) 8 c1, .slice (some ⟨g2, o2, none⟩) 8 c2, .int .u64 seed] 61 :: HP.slw (.slice (some ⟨g1, o1, none⟩) 8 c1) 5 8 (L40 S) :: HP.slw (.slice (some ⟨g2, o2, none⟩) 8 c2) 1 8 (L8 S) :: L)) :
    Calls Try.prog 21 #[.pointer (some ⟨b, 0, none⟩)] w fun r w' => ∃ v, r = .returned v ∧ Heap w0 w' (HP.slw v 5 (kept S 8).length (ecs (kept S 8)) :: HP.blk b #[.slice (some ⟨g1, o1, none⟩) 8 c1, .slice (some ⟨g2, o2, none⟩) 8 c2, .int .u64 seed] 61 :: HP.slw (.slice (some ⟨g1, o1, none⟩) 8 c1) 5 8 (L40 S) :: HP.slw (.slice (some ⟨g2, o2, none⟩) 8 c2) 1 8 (L8 S) :: L) := by
  obtain ⟨i0, hi, hz0, hz1, hz2⟩ := info_parts info36
  have hJ0 := hide (h.emptyW (sz := 5) 36)
  clear h
  go_enter Try.func21, Try.ntmps21
  go_wp2
  go_loopw [3, 4] (fun v i wr => ∃ k : Nat, i = .int .i64 k ∧ k ≤ 8 ∧ Heap w0 wr (HP.slw v 5 (kept S k).length (ecs (kept S k)) :: HP.blk b #[.slice (some ⟨g1, o1, none⟩) 8 c1, .slice (some ⟨g2, o2, none⟩) 8 c2, .int .u64 seed] 61 :: HP.slw (.slice (some ⟨g1, o1, none⟩) 8 c1) 5 8 (L40 S) :: HP.slw (.slice (some ⟨g2, o2, none⟩) 8 c2) 1 8 (L8 S) :: L)) (fun _ i _ => 8 - (intOf i).toNat)
  case atStart => exact ⟨0, rfl, Nat.zero_le _, unhide hJ0⟩
  case round =>
    rename_i v
    obtain ⟨k, rfl, hk, hJ⟩ := hrel
    clear hJ0
    by_cases hlt8 : k < 8
    · have hb3 := cells3 hJ.f2.heap
      have hbl := lt_of_heap' hJ.f2.heap
      obtain ⟨hgl1, d0, d1, d2, d3, d4⟩ := entCells hJ.f3.slw hlt8
      obtain ⟨hgl2, df, _⟩ := fullCell hJ.f4.slw hlt8
      have hkl := kept_len S k
      obtain ⟨A, cap, rfl, hcap⟩ := hJ.slw.parts
      cases hS : S k with
      | none =>
        rw [hS] at df
        simp only [Option.isSome_none] at df
        have hS' := hide hS
        clear hS
        go_wp2
        refine ⟨⟨k + 1, by go_num, by omega, by rw [kept_none (unhide hS')]; exact hJ⟩, by simp [intOf]; omega⟩
      | some e =>
        have hen : ent S k = e := by unfold ent; rw [hS]; rfl
        rw [hen] at d0 d1 d2 d3 d4
        rw [hS] at df
        simp only [Option.isSome_some] at df
        have hone := cs_one e
        have hS' := hide hS
        clear hen hS
        go_wp2_with (at_builtin; refine wpList_append_sl rfl _ _ 46 rfl 36 i0 _ 5 40 Try.underlying46 hi hz0 hz1 hz2 rfl rfl rfl (hJ.slw.alloc _) (Sl.five _ 36 e (by simp)) hone (by omega) (by omega) ?_; intro v' w' hsl hgr hblk hsp)
        obtain ⟨A', cap', rfl, _⟩ := hsl.parts
        have hJ' : Heap w0 w' (HP.slw (.slice A' ((kept S k).length + 1) cap') 5 (kept S (k + 1)).length (ecs (kept S (k + 1))) :: HP.blk b #[.slice (some ⟨g1, o1, none⟩) 8 c1, .slice (some ⟨g2, o2, none⟩) 8 c2, .int .u64 seed] 61 :: HP.slw (.slice (some ⟨g1, o1, none⟩) 8 c1) 5 8 (L40 S) :: HP.slw (.slice (some ⟨g2, o2, none⟩) 8 c2) 1 8 (L8 S) :: L) := by
          rw [kept_some (unhide hS'), ecs_snoc, List.length_append]
          exact (hJ.alloc _).appendw hsl hgr hblk
        go_wp2
        refine ⟨⟨k + 1, by go_num, by omega, hJ'⟩, by simp [intOf]; omega⟩
    · obtain rfl : k = 8 := by omega
      obtain ⟨A, cap, rfl, hcap⟩ := hJ.slw.parts
      go_wp2
      go_ret
      exact ⟨_, rfl, hJ⟩
theorem allR_h (h : Heap w0 w (HP.tr b seed S :: L)) :
    Calls Try.prog 21 #[.pointer (some ⟨b, 0, none⟩)] w fun r w' => ∃ v, r = .returned v ∧ Heap w0 w' (HP.slw v 5 (kept S 8).length (ecs (kept S 8)) :: HP.tr b seed S :: L) := by
  obtain ⟨⟨v1, v2⟩, ⟨hI, hsd⟩, hh⟩ := Heap.tr.1 h
  obtain ⟨g1, o1, c1, rfl, _⟩ := Sl.addr hh.f2.slw (by omega)
  obtain ⟨g2, o2, c2, rfl, _⟩ := Sl.addr hh.f3.slw (by omega)
  exact (allR_k hh).mono fun r w' ⟨v, hr, hg⟩ => ⟨v, hr, (Heap.tr.2 ⟨(_, _), ⟨hI, hsd⟩, hg.b4⟩).f2⟩
set_option maxRecDepth 100000 in
set_option maxHeartbeats 1000000 in
theorem copyR_k (h : Heap w0 w (HP.blk b #[.slice (some ⟨g1, o1, none⟩) 8 c1, .slice (some ⟨g2, o2, none⟩) 8 c2, .int .u64 seed] 61 :: HP.slw (.slice (some ⟨g1, o1, none⟩) 8 c1) 5 8 (L40 S) :: HP.slw (.slice (some ⟨g2, o2, none⟩) 8 c2) 1 8 (L8 S) :: L)) (hI : Inv S) (hsd : 0 ≤ seed ∧ seed < 18446744073709551616) :
    Calls Try.prog 19 #[.pointer (some ⟨b, 0, none⟩)] w fun r w' => ∃ b', r = .returned (.pointer (some ⟨b', 0, none⟩)) ∧ Heap w0 w' (HP.tr b' seed S :: HP.tr b seed S :: L) := by
  obtain ⟨i36, hi36, hz036, hz136, hz236⟩ := info_parts info36
  obtain ⟨i4, hi4, hz04, hz14, hz24⟩ := info_parts info4
  go_enter Try.func19, Try.ntmps19
  go_wp2
  refine wp_region_F (fun w_ => GN w w_) GN (fun k_ v_ w_ => match k_ with
      | 0 => ∃ g, v_ = .slice (some ⟨g, 0, none⟩) 0 0
      | 1 => v_ = .pointer (some ⟨b, 0, none⟩)
      | 2 => v_ = .pointer (some ⟨b, 0, none⟩)
      | 3 => v_ = .pointer (some ⟨b, 0, none⟩)
      | 4 => v_ = .slice (some ⟨g1, o1, none⟩) 8 c1
      | 5 => ∃ g cap cur, v_ = .slice (some ⟨g, 0, none⟩) 8 cap ∧ w.heap.size ≤ g ∧ w_.heap[g]? = some (.cells cur 36 (0, 0)) ∧ Sl w_ 5 (.slice (some ⟨g, 0, none⟩) 8 cap) 8 (L40 S)
      | 6 => ∃ g, v_ = .slice (some ⟨g, 0, none⟩) 0 0
      | 7 => v_ = .pointer (some ⟨b, 0, none⟩)
      | 8 => v_ = .pointer (some ⟨b, 0, none⟩)
      | 9 => v_ = .pointer (some ⟨b, 1, none⟩)
      | 10 => v_ = .slice (some ⟨g2, o2, none⟩) 8 c2
      | 11 => ∃ g cap cur, v_ = .slice (some ⟨g, 0, none⟩) 8 cap ∧ w.heap.size ≤ g ∧ w_.heap[g]? = some (.cells cur 4 (0, 0)) ∧ Sl w_ 1 (.slice (some ⟨g, 0, none⟩) 8 cap) 8 (L8 S)
      | 12 => v_ = .pointer (some ⟨b, 0, none⟩)
      | 13 => v_ = .pointer (some ⟨b, 0, none⟩)
      | 14 => v_ = .pointer (some ⟨b, 2, none⟩)
      | 15 => v_ = .int .u64 seed
      | 16 => ∃ x y, v_ = .agg #[x, y, .int .u64 seed] ∧ (∃ g cap cur, x = .slice (some ⟨g, 0, none⟩) 8 cap ∧ w.heap.size ≤ g ∧ w_.heap[g]? = some (.cells cur 36 (0, 0)) ∧ Sl w_ 5 (.slice (some ⟨g, 0, none⟩) 8 cap) 8 (L40 S)) ∧ (∃ g cap cur, y = .slice (some ⟨g, 0, none⟩) 8 cap ∧ w.heap.size ≤ g ∧ w_.heap[g]? = some (.cells cur 4 (0, 0)) ∧ Sl w_ 1 (.slice (some ⟨g, 0, none⟩) 8 cap) 8 (L8 S))
      | 17 => ∃ b', v_ = .pointer (some ⟨b', 0, none⟩) ∧ w.heap.size ≤ b' ∧ ∃ x y, w_.heap[b']? = some (.cells #[x, y, .int .u64 seed] 61 (0, 0)) ∧ (∃ g cap cur, x = .slice (some ⟨g, 0, none⟩) 8 cap ∧ w.heap.size ≤ g ∧ w_.heap[g]? = some (.cells cur 36 (0, 0)) ∧ Sl w_ 5 (.slice (some ⟨g, 0, none⟩) 8 cap) 8 (L40 S)) ∧ (∃ g cap cur, y = .slice (some ⟨g, 0, none⟩) 8 cap ∧ w.heap.size ≤ g ∧ w_.heap[g]? = some (.cells cur 4 (0, 0)) ∧ Sl w_ 1 (.slice (some ⟨g, 0, none⟩) 8 cap) 8 (L8 S))
      | _ => ∃ b', v_ = .pointer (some ⟨b', 0, none⟩) ∧ w.heap.size ≤ b' ∧ ∃ x y, w_.heap[b']? = some (.cells #[x, y, .int .u64 seed] 61 (0, 0)) ∧ (∃ g cap cur, x = .slice (some ⟨g, 0, none⟩) 8 cap ∧ w.heap.size ≤ g ∧ w_.heap[g]? = some (.cells cur 36 (0, 0)) ∧ Sl w_ 5 (.slice (some ⟨g, 0, none⟩) 8 cap) 8 (L40 S)) ∧ (∃ g cap cur, y = .slice (some ⟨g, 0, none⟩) 8 cap ∧ w.heap.size ≤ g ∧ w_.heap[g]? = some (.cells cur 4 (0, 0)) ∧ Sl w_ 1 (.slice (some ⟨g, 0, none⟩) 8 cap) 8 (L8 S))) fol (by kernel_rfl) ?_ ?_ ?_ ?_
  · exact (GN.refl w).drew
  · intro k_ v_ w_ w2_ h1 hg
    split at h1 <;> first | exact h1 | (obtain ⟨g, cap, cur, e1, q1, q2, q3⟩ := h1; exact ⟨g, cap, cur, e1, q1, hg.heap q2, q3.gn hg⟩) | (obtain ⟨x, y, e, ⟨g, cap, cur, e1, q1, q2, q3⟩, ⟨g', cap', cur', e2, q4, q5, q6⟩⟩ := h1; exact ⟨x, y, e, ⟨g, cap, cur, e1, q1, hg.heap q2, q3.gn hg⟩, ⟨g', cap', cur', e2, q4, hg.heap q5, q6.gn hg⟩⟩) | (obtain ⟨b', e, q, x, y, e', ⟨g, cap, cur, e1, q1, q2, q3⟩, ⟨g', cap', cur', e2, q4, q5, q6⟩⟩ := h1; exact ⟨b', e, q, x, y, hg.heap e', ⟨g, cap, cur, e1, q1, hg.heap q2, q3.gn hg⟩, ⟨g', cap', cur', e2, q4, hg.heap q5, q6.gn hg⟩⟩)
  · intro vals
    show wpG _ _ _ _ _ _ 0 (_ :: _) _
    refine wpG_cons (gmake fun w_ hJ hd => ?_) ?_
    · exact ⟨by kernel_rfl, _, w_.alloc (.cells #[] 36), (by kernel_rfl : _ = Result.ok (Next.value (.slice (some ⟨w_.heap.size, 0, none⟩) 0 0)) _), hJ.alloc _, grown_b1 _ _, w_.heap.size, rfl⟩
    refine wpG_cons (gval (.pointer (some ⟨b, 0, none⟩)) GN.refl fun w_ hJ hd => ?_) ?_
    · exact ⟨by kernel_rfl, by kernel_rfl, rfl⟩
    refine wpG_cons (gval (.pointer (some ⟨b, 0, none⟩)) GN.refl fun w_ hJ hd => ?_) ?_
    · have e1 : vals 1 = _ := hd 1 (by decide) (by kernel_rfl)
      rw [e1]
      exact ⟨by kernel_rfl, by kernel_rfl, rfl⟩
    refine wpG_cons (gval (.pointer (some ⟨b, 0, none⟩)) GN.refl fun w_ hJ hd => ?_) ?_
    · have e2 : vals 2 = _ := hd 2 (by decide) (by kernel_rfl)
      rw [e2]
      exact ⟨by kernel_rfl, by kernel_rfl, rfl⟩
    refine wpG_cons (gop (Instr.loadAt 46 (.pointer (some ⟨b, 0, none⟩))) (.slice (some ⟨g1, o1, none⟩) 8 c1) GN.refl fun w_ hJ hd => ?_) ?_
    · have e3 : vals 3 = _ := hd 3 (by decide) (by kernel_rfl)
      rw [e3]
      exact ⟨by kernel_rfl, by kernel_rfl, run_load1 (by kernel_rfl) (cells3 (h.grown hJ).heap).1, rfl⟩
    refine wpG_cons (gmake fun w_ hJ hd => ?_) ?_
    · have e0 : ∃ g, (vals 0) = .slice (some ⟨g, 0, none⟩) 0 0 := hd 0 (by decide) (by kernel_rfl)
      have e4 : vals 4 = _ := hd 4 (by decide) (by kernel_rfl)
      rw [e4]
      obtain ⟨g0, e0⟩ := e0
      rw [e0]
      obtain ⟨cap, cur, w', hr, hs, hh, hg⟩ := run_append_clone (P := Try.prog) (w := w_) (g0 := g0) (o0 := 0) 46 46 36 i36 _ 5 40 Try.underlying46 hi36 hz036 hz136 hz236 rfl ((h.grown hJ).f2.slw) (by omega) (by omega) (by omega)
      exact ⟨by kernel_rfl, _, w', Eq.trans (b := Sem.run Try.prog (do let r ← Builtin.append_ #[46, 46] 46 #[.slice (some ⟨g0, 0, none⟩) 0 0, .slice (some ⟨g1, o1, none⟩) 8 c1]; pure (Next.value r)) w_) (by kernel_rfl) (run_val hr), hJ.trans hg, hg, w_.heap.size, cap, cur, rfl, hJ.size, hh, hs⟩
    refine wpG_cons (gmake fun w_ hJ hd => ?_) ?_
    · exact ⟨by kernel_rfl, _, w_.alloc (.cells #[] 4), (by kernel_rfl : _ = Result.ok (Next.value (.slice (some ⟨w_.heap.size, 0, none⟩) 0 0)) _), hJ.alloc _, grown_b1 _ _, w_.heap.size, rfl⟩
    refine wpG_cons (gval (.pointer (some ⟨b, 0, none⟩)) GN.refl fun w_ hJ hd => ?_) ?_
    · exact ⟨by kernel_rfl, by kernel_rfl, rfl⟩
    refine wpG_cons (gval (.pointer (some ⟨b, 0, none⟩)) GN.refl fun w_ hJ hd => ?_) ?_
    · have e7 : vals 7 = _ := hd 7 (by decide) (by kernel_rfl)
      rw [e7]
      exact ⟨by kernel_rfl, by kernel_rfl, rfl⟩
    refine wpG_cons (gval (.pointer (some ⟨b, 1, none⟩)) GN.refl fun w_ hJ hd => ?_) ?_
    · have e8 : vals 8 = _ := hd 8 (by decide) (by kernel_rfl)
      rw [e8]
      exact ⟨by kernel_rfl, by kernel_rfl, rfl⟩
    refine wpG_cons (gop (Instr.loadAt 59 (.pointer (some ⟨b, 1, none⟩))) (.slice (some ⟨g2, o2, none⟩) 8 c2) GN.refl fun w_ hJ hd => ?_) ?_
    · have e9 : vals 9 = _ := hd 9 (by decide) (by kernel_rfl)
      rw [e9]
      exact ⟨by kernel_rfl, by kernel_rfl, run_load1 (by kernel_rfl) (cells3 (h.grown hJ).heap).2.1, rfl⟩
    refine wpG_cons (gmake fun w_ hJ hd => ?_) ?_
    · have e6 : ∃ g, (vals 6) = .slice (some ⟨g, 0, none⟩) 0 0 := hd 6 (by decide) (by kernel_rfl)
      have e10 : vals 10 = _ := hd 10 (by decide) (by kernel_rfl)
      rw [e10]
      obtain ⟨g0, e6⟩ := e6
      rw [e6]
      obtain ⟨cap, cur, w', hr, hs, hh, hg⟩ := run_append_clone (P := Try.prog) (w := w_) (g0 := g0) (o0 := 0) 59 59 4 i4 _ 1 1 Try.underlying59 hi4 hz04 hz14 hz24 rfl ((h.grown hJ).f3.slw) (by omega) (by omega) (by omega)
      exact ⟨by kernel_rfl, _, w', Eq.trans (b := Sem.run Try.prog (do let r ← Builtin.append_ #[59, 59] 59 #[.slice (some ⟨g0, 0, none⟩) 0 0, .slice (some ⟨g2, o2, none⟩) 8 c2]; pure (Next.value r)) w_) (by kernel_rfl) (run_val hr), hJ.trans hg, hg, w_.heap.size, cap, cur, rfl, hJ.size, hh, hs⟩
    refine wpG_cons (gval (.pointer (some ⟨b, 0, none⟩)) GN.refl fun w_ hJ hd => ?_) ?_
    · exact ⟨by kernel_rfl, by kernel_rfl, rfl⟩
    refine wpG_cons (gval (.pointer (some ⟨b, 0, none⟩)) GN.refl fun w_ hJ hd => ?_) ?_
    · have e12 : vals 12 = _ := hd 12 (by decide) (by kernel_rfl)
      rw [e12]
      exact ⟨by kernel_rfl, by kernel_rfl, rfl⟩
    refine wpG_cons (gval (.pointer (some ⟨b, 2, none⟩)) GN.refl fun w_ hJ hd => ?_) ?_
    · have e13 : vals 13 = _ := hd 13 (by decide) (by kernel_rfl)
      rw [e13]
      exact ⟨by kernel_rfl, by kernel_rfl, rfl⟩
    refine wpG_cons (gop (Instr.loadAt 22 (.pointer (some ⟨b, 2, none⟩))) (.int .u64 seed) GN.refl fun w_ hJ hd => ?_) ?_
    · have e14 : vals 14 = _ := hd 14 (by decide) (by kernel_rfl)
      rw [e14]
      exact ⟨by kernel_rfl, by kernel_rfl, run_load1 (by kernel_rfl) (cells3 (h.grown hJ).heap).2.2.1, rfl⟩
    refine wpG_cons (gmake fun w_ hJ hd => ?_) ?_
    · have e5 : ∃ g cap cur, (vals 5) = .slice (some ⟨g, 0, none⟩) 8 cap ∧ w.heap.size ≤ g ∧ w_.heap[g]? = some (.cells cur 36 (0, 0)) ∧ Sl w_ 5 (.slice (some ⟨g, 0, none⟩) 8 cap) 8 (L40 S) := hd 5 (by decide) (by kernel_rfl)
      have e11 : ∃ g cap cur, (vals 11) = .slice (some ⟨g, 0, none⟩) 8 cap ∧ w.heap.size ≤ g ∧ w_.heap[g]? = some (.cells cur 4 (0, 0)) ∧ Sl w_ 1 (.slice (some ⟨g, 0, none⟩) 8 cap) 8 (L8 S) := hd 11 (by decide) (by kernel_rfl)
      have e15 : vals 15 = _ := hd 15 (by decide) (by kernel_rfl)
      rw [e15]
      obtain ⟨g, cap, cur, eg, r5⟩ := e5
      obtain ⟨g', cap', cur', eg', r11⟩ := e11
      rw [eg, eg']
      exact ⟨by kernel_rfl, _, w_, (by kernel_rfl : _ = Result.ok (Next.value (.agg #[.slice (some ⟨g, 0, none⟩) 8 cap, .slice (some ⟨g', 0, none⟩) 8 cap', .int .u64 seed])) _), hJ, GN.refl _, _, _, rfl, ⟨g, cap, cur, rfl, r5⟩, ⟨g', cap', cur', rfl, r11⟩⟩
    refine wpG_cons (gmake fun w_ hJ hd => ?_) ?_
    · have e16 : ∃ x y, (vals 16) = .agg #[x, y, .int .u64 seed] ∧ (∃ g cap cur, x = .slice (some ⟨g, 0, none⟩) 8 cap ∧ w.heap.size ≤ g ∧ w_.heap[g]? = some (.cells cur 36 (0, 0)) ∧ Sl w_ 5 (.slice (some ⟨g, 0, none⟩) 8 cap) 8 (L40 S)) ∧ (∃ g cap cur, y = .slice (some ⟨g, 0, none⟩) 8 cap ∧ w.heap.size ≤ g ∧ w_.heap[g]? = some (.cells cur 4 (0, 0)) ∧ Sl w_ 1 (.slice (some ⟨g, 0, none⟩) 8 cap) 8 (L8 S)) := hd 16 (by decide) (by kernel_rfl)
      obtain ⟨x, y, eg, ⟨g, cap, cur, rfl, q1, q2, q3⟩, ⟨g', cap', cur', rfl, q4, q5, q6⟩⟩ := e16
      rw [eg]
      have hgn := grown_b1 w_ (.cells #[.slice (some ⟨g, 0, none⟩) 8 cap, .slice (some ⟨g', 0, none⟩) 8 cap', .int .u64 seed] 61)
      exact ⟨by kernel_rfl, _, w_.alloc (.cells #[.slice (some ⟨g, 0, none⟩) 8 cap, .slice (some ⟨g', 0, none⟩) 8 cap', .int .u64 seed] 61), (by kernel_rfl : _ = Result.ok (Next.value (.pointer (some ⟨w_.heap.size, 0, none⟩))) _), hJ.alloc _, hgn, w_.heap.size, rfl, hJ.size, _, _, heap_new' _ _, ⟨g, cap, cur, rfl, q1, hgn.heap q2, q3.gn hgn⟩, ⟨g', cap', cur', rfl, q4, hgn.heap q5, q6.gn hgn⟩⟩
    refine wpG_cons (gmake fun w_ hJ hd => ?_) wpG_nil
    · have e17 : ∃ b', (vals 17) = .pointer (some ⟨b', 0, none⟩) ∧ w.heap.size ≤ b' ∧ ∃ x y, w_.heap[b']? = some (.cells #[x, y, .int .u64 seed] 61 (0, 0)) ∧ (∃ g cap cur, x = .slice (some ⟨g, 0, none⟩) 8 cap ∧ w.heap.size ≤ g ∧ w_.heap[g]? = some (.cells cur 36 (0, 0)) ∧ Sl w_ 5 (.slice (some ⟨g, 0, none⟩) 8 cap) 8 (L40 S)) ∧ (∃ g cap cur, y = .slice (some ⟨g, 0, none⟩) 8 cap ∧ w.heap.size ≤ g ∧ w_.heap[g]? = some (.cells cur 4 (0, 0)) ∧ Sl w_ 1 (.slice (some ⟨g, 0, none⟩) 8 cap) 8 (L8 S)) := hd 17 (by decide) (by kernel_rfl)
      obtain ⟨b', eb, hb⟩ := e17
      rw [eb]
      exact ⟨by kernel_rfl, _, w_, (by kernel_rfl), hJ, GN.refl _, b', rfl, hb⟩
  · intro vals w_ hJ hf
    have e1 : vals 1 = _ := hf 1 (by decide)
    have e2 : vals 2 = _ := hf 2 (by decide)
    have e3 : vals 3 = _ := hf 3 (by decide)
    have e4 : vals 4 = _ := hf 4 (by decide)
    have e7 : vals 7 = _ := hf 7 (by decide)
    have e8 : vals 8 = _ := hf 8 (by decide)
    have e9 : vals 9 = _ := hf 9 (by decide)
    have e10 : vals 10 = _ := hf 10 (by decide)
    have e12 : vals 12 = _ := hf 12 (by decide)
    have e13 : vals 13 = _ := hf 13 (by decide)
    have e14 : vals 14 = _ := hf 14 (by decide)
    have e15 : vals 15 = _ := hf 15 (by decide)
    have e18 : ∃ b', (vals 18) = .pointer (some ⟨b', 0, none⟩) ∧ w.heap.size ≤ b' ∧ ∃ x y, w_.heap[b']? = some (.cells #[x, y, .int .u64 seed] 61 (0, 0)) ∧ (∃ g cap cur, x = .slice (some ⟨g, 0, none⟩) 8 cap ∧ w.heap.size ≤ g ∧ w_.heap[g]? = some (.cells cur 36 (0, 0)) ∧ Sl w_ 5 (.slice (some ⟨g, 0, none⟩) 8 cap) 8 (L40 S)) ∧ (∃ g cap cur, y = .slice (some ⟨g, 0, none⟩) 8 cap ∧ w.heap.size ≤ g ∧ w_.heap[g]? = some (.cells cur 4 (0, 0)) ∧ Sl w_ 1 (.slice (some ⟨g, 0, none⟩) 8 cap) 8 (L8 S)) := hf 18 (by decide)
    simp only [fillG, Nat.zero_add, Nat.reduceAdd, e1, e2, e3, e4, e7, e8, e9, e10, e12, e13, e14, e15, Act.put, List.setIfInBounds_toArray, List.set_cons_succ, List.set_cons_zero]
    clear e1 e2 e3 e4 e7 e8 e9 e10 e12 e13 e14 e15 hf
    generalize vals 0 = v0
    generalize vals 5 = v5
    generalize vals 6 = v6
    generalize vals 11 = v11
    generalize vals 16 = v16
    generalize vals 17 = v17
    generalize vals 18 = v18 at *
    obtain ⟨b', rfl, hb0, _, _, hb, ⟨g, cap, cur, rfl, q1, q2, q3⟩, ⟨g', cap', cur', rfl, q4, q5, q6⟩⟩ := e18
    have n1 := blk_ne hb q2 (by intro e; injection e with _ e; cases e)
    have n2 := blk_ne hb q5 (by intro e; injection e with _ e; cases e)
    have n3 := blk_ne q5 q2 (by intro e; injection e with _ e; cases e)
    have hm := (Heap.tr.2 ⟨(_, _), ⟨hI, hsd⟩, h⟩).fresh3 hJ hb hb0 q3 q6 (fun x hx => by injection hx with hx; exact hx ▸ q1) (fun x hx => by injection hx with hx; exact hx ▸ q4)
      (fun e => by injection e with e; exact n1 e) (fun e => by injection e with e; exact n2 e) (fun e => by injection e with e; exact n3 e)
    go_wp2
    go_ret
    exact ⟨b', rfl, Heap.tr.2 ⟨(_, _), ⟨hI, hsd⟩, hm⟩⟩
theorem copyR_h (h : Heap w0 w (HP.tr b seed S :: L)) :
    Calls Try.prog 19 #[.pointer (some ⟨b, 0, none⟩)] w fun r w' => ∃ b', r = .returned (.pointer (some ⟨b', 0, none⟩)) ∧ Heap w0 w' (HP.tr b' seed S :: HP.tr b seed S :: L) := by
  obtain ⟨⟨v1, v2⟩, ⟨hI, hsd⟩, hh⟩ := Heap.tr.1 h
  obtain ⟨g1, o1, c1, rfl, _⟩ := Sl.addr hh.f2.slw (by omega)
  obtain ⟨g2, o2, c2, rfl, _⟩ := Sl.addr hh.f3.slw (by omega)
  exact copyR_k hh hI hsd
end
end Go.Proofs.Ytlkkmpfhhfaioaa
