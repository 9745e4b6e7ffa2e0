/- Layer 18: Back. -/
import Derived.Test.YtabkkeniaepibaaG5
namespace Go.Proofs.Ytabkkeniaepibaa
open Go.RowKit

def clamp (sz : Int) : Int := max 0 (min sz 4)
def backS (c : St) (m : Nat → Int) (sz hs : Int) : St := fun i =>
  if i = 117 then hs % 64 else if i = 116 then clamp sz else if 112 ≤ i ∧ i < 116 then (if ((i - 112 : Nat) : Int) < clamp sz then m (i - 112) else 0) else c i
section
variable {w0 w : World} {L : List HP} {b : Nat} {c : St}
set_option maxRecDepth 100000 in
set_option maxHeartbeats 1000000 in
theorem back_k (h : Heap w0 w (HP.blk b (gl c).toArray 56 :: L)) (m0 m1 m2 m3 sz hs : Int) (h0 : 0 ≤ hs) (h1 : hs < 18446744073709551616) :
    Calls Try.prog 17 #[.pointer (some ⟨b, 0, none⟩), .agg #[.int .u64 m0, .int .u64 m1, .int .u64 m2, .int .u64 m3, .int .i64 sz, .int .u64 hs]] w fun r w' => r = .returned (.tuple #[]) ∧ Heap w0 w' (HP.blk b (gl (backS c (fun i => if i = 0 then m0 else if i = 1 then m1 else if i = 2 then m2 else m3) sz hs)).toArray 56 :: L) := by
  have J1 := (h.new #[.int .u64 m0, .int .u64 m1, .int .u64 m2, .int .u64 m3, .int .i64 sz, .int .u64 hs] 31).f2
  obtain ⟨bm, hbm⟩ : ∃ bm, w.heap.size = bm := ⟨_, rfl⟩
  rw [hbm] at J1
  have hlt := lt_of_heap' J1.heap
  have hlm := lt_of_heap' J1.f2.heap
  have e1 := and63 hs h0 h1
  have d0f := (gcell J1.heap (i := 112) (by omega))
  have d1f := (gcell J1.heap (i := 113) (by omega))
  have d2f := (gcell J1.heap (i := 114) (by omega))
  have d3f := (gcell J1.heap (i := 115) (by omega))
  have d4f := (gcell J1.heap (i := 116) (by omega))
  have d5f := (gcell J1.heap (i := 117) (by omega))
  clear h
  go_enter Try.func17, Try.ntmps17
  have hss : sz ≤ 0 ∨ sz = 1 ∨ sz = 2 ∨ sz = 3 ∨ sz = 4 ∨ 4 < sz := by omega
  rcases hss with hq | hq | hq | hq | hq | hq
  · have hcl : clamp sz = 0 := by unfold clamp; omega
    have Hcl := hide hcl
    clear hcl
    have f1 : min sz 4 = sz := by omega
    have f2 : max 0 sz = 0 := by omega
    have f3 : max sz 0 = 0 := by omega
    go_wp2_with fail
    have J2 := ((((((J1.gset 112 0 (k := .u64) rfl).gset 113 0 (k := .u64) rfl).gset 114 0 (k := .u64) rfl).gset 115 0 (k := .u64) rfl).gset 116 0 (k := .i64) rfl).gset 117 (hs % 64) (k := .u64) rfl)
    clear J1 d0f d1f d2f d3f d4f d5f
    refine wp_region_E (fun w_ => Heap w0 w_ (HP.blk b (gl (upd (upd (upd (upd (upd (upd c 112 0) 113 0) 114 0) 115 0) 116 0) 117 (hs % 64))).toArray 56 :: HP.blk bm #[.int .u64 m0, .int .u64 m1, .int .u64 m2, .int .u64 m3, .int .i64 sz, .int .u64 hs] 31 :: L)) GN (fun k_ v_ w_ => match k_ with
        | 0 => v_ = .pointer (some ⟨b, 0, none⟩)
        | 1 => v_ = .pointer (some ⟨b, 0, none⟩)
        | 2 => v_ = .pointer (some ⟨b, 112, none⟩)
        | 3 => v_ = .pointer (some ⟨b, 112, none⟩)
        | 4 => v_ = .pointer (some ⟨b, 0, none⟩)
        | 5 => v_ = .pointer (some ⟨b, 0, none⟩)
        | 6 => v_ = .pointer (some ⟨b, 112, none⟩)
        | 7 => v_ = .pointer (some ⟨b, 116, none⟩)
        | 8 => v_ = .int .i64 0
        | 9 => v_ = .slice (some ⟨b, 112, none⟩) 0 4
        | 10 => v_ = .pointer (some ⟨bm, 0, none⟩)
        | _ => v_ = .slice (some ⟨bm, 0, none⟩) 4 4) fol (by kernel_rfl) ?_ ?_ (n := 12) rfl rfl rfl (by kernel_rfl) ?_ ?_
    · exact J2.drew
    · intro k_ v_ w_ w2_ h1 hg
      split at h1 <;> exact h1
    · intro vals
      show wpG _ _ _ _ _ _ 0 (_ :: _) _
      refine wpG_cons (gval (.pointer (some ⟨b, 0, none⟩)) GN.refl fun w_ hJ hd => ?_) ?_
      · exact ⟨by kernel_rfl, by kernel_rfl, rfl⟩
      refine wpG_cons (gval (.pointer (some ⟨b, 0, none⟩)) GN.refl fun w_ hJ hd => ?_) ?_
      · have e0 : vals 0 = _ := hd 0 (by decide) (by kernel_rfl)
        rw [e0]
        exact ⟨by kernel_rfl, by kernel_rfl, rfl⟩
      refine wpG_cons (gval (.pointer (some ⟨b, 112, none⟩)) GN.refl fun w_ hJ hd => ?_) ?_
      · have e1 : vals 1 = _ := hd 1 (by decide) (by kernel_rfl)
        rw [e1]
        exact ⟨by kernel_rfl, by kernel_rfl, rfl⟩
      refine wpG_cons (gval (.pointer (some ⟨b, 112, none⟩)) GN.refl fun w_ hJ hd => ?_) ?_
      · have e2 : vals 2 = _ := hd 2 (by decide) (by kernel_rfl)
        rw [e2]
        exact ⟨by kernel_rfl, by kernel_rfl, rfl⟩
      refine wpG_cons (gval (.pointer (some ⟨b, 0, none⟩)) GN.refl fun w_ hJ hd => ?_) ?_
      · exact ⟨by kernel_rfl, by kernel_rfl, rfl⟩
      refine wpG_cons (gval (.pointer (some ⟨b, 0, none⟩)) GN.refl fun w_ hJ hd => ?_) ?_
      · have e4 : vals 4 = _ := hd 4 (by decide) (by kernel_rfl)
        rw [e4]
        exact ⟨by kernel_rfl, by kernel_rfl, rfl⟩
      refine wpG_cons (gval (.pointer (some ⟨b, 112, none⟩)) GN.refl fun w_ hJ hd => ?_) ?_
      · have e5 : vals 5 = _ := hd 5 (by decide) (by kernel_rfl)
        rw [e5]
        exact ⟨by kernel_rfl, by kernel_rfl, rfl⟩
      refine wpG_cons (gval (.pointer (some ⟨b, 116, none⟩)) GN.refl fun w_ hJ hd => ?_) ?_
      · have e6 : vals 6 = _ := hd 6 (by decide) (by kernel_rfl)
        rw [e6]
        exact ⟨by kernel_rfl, by kernel_rfl, rfl⟩
      refine wpG_cons (gop (Instr.loadAt 3 (.pointer (some ⟨b, 116, none⟩))) (.int .i64 0) GN.refl fun w_ hJ hd => ?_) ?_
      · have e7 : vals 7 = _ := hd 7 (by decide) (by kernel_rfl)
        rw [e7]
        exact ⟨by kernel_rfl, by kernel_rfl, run_ldv hJ.heap (by omega) (by kernel_rfl) rfl (by simp [upd]), rfl⟩
      refine wpG_cons (gval (.slice (some ⟨b, 112, none⟩) 0 4) GN.refl fun w_ hJ hd => ?_) ?_
      · have e3 : vals 3 = _ := hd 3 (by decide) (by kernel_rfl)
        have e8 : vals 8 = _ := hd 8 (by decide) (by kernel_rfl)
        rw [e3, e8]
        exact ⟨by kernel_rfl, by kernel_rfl, rfl⟩
      refine wpG_cons (gval (.pointer (some ⟨bm, 0, none⟩)) GN.refl fun w_ hJ hd => ?_) ?_
      · exact ⟨by kernel_rfl, by kernel_rfl, rfl⟩
      refine wpG_cons (gval (.slice (some ⟨bm, 0, none⟩) 4 4) GN.refl fun w_ hJ hd => ?_) wpG_nil
      · have e10 : vals 10 = _ := hd 10 (by decide) (by kernel_rfl)
        rw [e10]
        exact ⟨by kernel_rfl, by kernel_rfl, rfl⟩
    · intro vals w_ hJ hf
      have e0 : vals 0 = _ := hf 0 (by decide)
      have e1 : vals 1 = _ := hf 1 (by decide)
      have e2 : vals 2 = _ := hf 2 (by decide)
      have e3 : vals 3 = _ := hf 3 (by decide)
      have e4 : vals 4 = _ := hf 4 (by decide)
      have e5 : vals 5 = _ := hf 5 (by decide)
      have e6 : vals 6 = _ := hf 6 (by decide)
      have e7 : vals 7 = _ := hf 7 (by decide)
      have e8 : vals 8 = _ := hf 8 (by decide)
      have e9 : vals 9 = _ := hf 9 (by decide)
      have e10 : vals 10 = _ := hf 10 (by decide)
      have e11 : vals 11 = _ := hf 11 (by decide)
      show Oper.wp _ _ (fillG vals 0 (_ :: _ :: _ :: _ :: _ :: _ :: _ :: _ :: _ :: _ :: _ :: _ :: []) _) _ _ _
      simp only [fillG, Nat.zero_add, Nat.reduceAdd, e0, e1, e2, e3, e4, e5, e6, e7, e8, e9, e10, e11, Act.put, List.setIfInBounds_toArray, List.set_cons_succ, List.set_cons_zero]
      clear e0 e1 e2 e3 e4 e5 e6 e7 e8 e9 e10 e11 hf
      refine wp_last_value (w' := w_) (v := goInt 0) (Eq.trans (b := Sem.run Try.prog (do let r ← Builtin.copy_ #[59, 59] 3 #[.slice (some ⟨b, 112, none⟩) 0 4, .slice (some ⟨bm, 0, none⟩) 4 4]; pure (Next.value r) : Sem Next) w_) (by kernel_rfl) (run_val (run_copy_none w_ 59 59 3 22 _ _ 0 4 4 4 Try.underlying59 (by kernel_rfl) rfl))) ?_
      simp only [Act.put]
      have h4 : Heap w0 (w_) (HP.blk b (gl (upd (upd (upd (upd (upd (upd c 112 0) 113 0) 114 0) 115 0) 116 0) 117 (hs % 64))).toArray 56 :: HP.blk bm #[.int .u64 m0, .int .u64 m1, .int .u64 m2, .int .u64 m3, .int .i64 sz, .int .u64 hs] 31 :: L) := hJ
      have hst : upd (upd (upd (upd (upd (upd c 112 0) 113 0) 114 0) 115 0) 116 0) 117 (hs % 64) = backS c (fun i => if i = 0 then m0 else if i = 1 then m1 else if i = 2 then m2 else m3) sz hs := by
        funext i
        have hcl := unhide Hcl
        by_cases hi : i < 112 ∨ 117 < i
        · unfold backS upd
          repeat rw [if_neg (by omega)]
        · have hi6 : i = 112 ∨ i = 113 ∨ i = 114 ∨ i = 115 ∨ i = 116 ∨ i = 117 := by omega
          unfold backS
          rw [hcl]
          rcases hi6 with rfl | rfl | rfl | rfl | rfl | rfl <;> simp [upd]
      rw [hst] at h4
      have h4 := h4.f2.tail
      clear hJ hst
      exact bodyPost_end (v := .tuple #[]) (by simp [results, Try.results17, go_sem]) rfl ⟨rfl, h4⟩
  · subst hq
    have hcl : clamp 1 = 1 := by unfold clamp; omega
    have Hcl := hide hcl
    clear hcl
    go_wp2_with fail
    have J2 := ((((((J1.gset 112 0 (k := .u64) rfl).gset 113 0 (k := .u64) rfl).gset 114 0 (k := .u64) rfl).gset 115 0 (k := .u64) rfl).gset 116 1 (k := .i64) rfl).gset 117 (hs % 64) (k := .u64) rfl)
    clear J1 d0f d1f d2f d3f d4f d5f
    refine wp_region_E (fun w_ => Heap w0 w_ (HP.blk b (gl (upd (upd (upd (upd (upd (upd c 112 0) 113 0) 114 0) 115 0) 116 1) 117 (hs % 64))).toArray 56 :: HP.blk bm #[.int .u64 m0, .int .u64 m1, .int .u64 m2, .int .u64 m3, .int .i64 1, .int .u64 hs] 31 :: L)) GN (fun k_ v_ w_ => match k_ with
        | 0 => v_ = .pointer (some ⟨b, 0, none⟩)
        | 1 => v_ = .pointer (some ⟨b, 0, none⟩)
        | 2 => v_ = .pointer (some ⟨b, 112, none⟩)
        | 3 => v_ = .pointer (some ⟨b, 112, none⟩)
        | 4 => v_ = .pointer (some ⟨b, 0, none⟩)
        | 5 => v_ = .pointer (some ⟨b, 0, none⟩)
        | 6 => v_ = .pointer (some ⟨b, 112, none⟩)
        | 7 => v_ = .pointer (some ⟨b, 116, none⟩)
        | 8 => v_ = .int .i64 1
        | 9 => v_ = .slice (some ⟨b, 112, none⟩) 1 4
        | 10 => v_ = .pointer (some ⟨bm, 0, none⟩)
        | _ => v_ = .slice (some ⟨bm, 0, none⟩) 4 4) fol (by kernel_rfl) ?_ ?_ (n := 12) rfl rfl rfl (by kernel_rfl) ?_ ?_
    · exact J2.drew
    · intro k_ v_ w_ w2_ h1 hg
      split at h1 <;> exact h1
    · intro vals
      show wpG _ _ _ _ _ _ 0 (_ :: _) _
      refine wpG_cons (gval (.pointer (some ⟨b, 0, none⟩)) GN.refl fun w_ hJ hd => ?_) ?_
      · exact ⟨by kernel_rfl, by kernel_rfl, rfl⟩
      refine wpG_cons (gval (.pointer (some ⟨b, 0, none⟩)) GN.refl fun w_ hJ hd => ?_) ?_
      · have e0 : vals 0 = _ := hd 0 (by decide) (by kernel_rfl)
        rw [e0]
        exact ⟨by kernel_rfl, by kernel_rfl, rfl⟩
      refine wpG_cons (gval (.pointer (some ⟨b, 112, none⟩)) GN.refl fun w_ hJ hd => ?_) ?_
      · have e1 : vals 1 = _ := hd 1 (by decide) (by kernel_rfl)
        rw [e1]
        exact ⟨by kernel_rfl, by kernel_rfl, rfl⟩
      refine wpG_cons (gval (.pointer (some ⟨b, 112, none⟩)) GN.refl fun w_ hJ hd => ?_) ?_
      · have e2 : vals 2 = _ := hd 2 (by decide) (by kernel_rfl)
        rw [e2]
        exact ⟨by kernel_rfl, by kernel_rfl, rfl⟩
      refine wpG_cons (gval (.pointer (some ⟨b, 0, none⟩)) GN.refl fun w_ hJ hd => ?_) ?_
      · exact ⟨by kernel_rfl, by kernel_rfl, rfl⟩
      refine wpG_cons (gval (.pointer (some ⟨b, 0, none⟩)) GN.refl fun w_ hJ hd => ?_) ?_
      · have e4 : vals 4 = _ := hd 4 (by decide) (by kernel_rfl)
        rw [e4]
        exact ⟨by kernel_rfl, by kernel_rfl, rfl⟩
      refine wpG_cons (gval (.pointer (some ⟨b, 112, none⟩)) GN.refl fun w_ hJ hd => ?_) ?_
      · have e5 : vals 5 = _ := hd 5 (by decide) (by kernel_rfl)
        rw [e5]
        exact ⟨by kernel_rfl, by kernel_rfl, rfl⟩
      refine wpG_cons (gval (.pointer (some ⟨b, 116, none⟩)) GN.refl fun w_ hJ hd => ?_) ?_
      · have e6 : vals 6 = _ := hd 6 (by decide) (by kernel_rfl)
        rw [e6]
        exact ⟨by kernel_rfl, by kernel_rfl, rfl⟩
      refine wpG_cons (gop (Instr.loadAt 3 (.pointer (some ⟨b, 116, none⟩))) (.int .i64 1) GN.refl fun w_ hJ hd => ?_) ?_
      · have e7 : vals 7 = _ := hd 7 (by decide) (by kernel_rfl)
        rw [e7]
        exact ⟨by kernel_rfl, by kernel_rfl, run_ldv hJ.heap (by omega) (by kernel_rfl) rfl (by simp [upd]), rfl⟩
      refine wpG_cons (gval (.slice (some ⟨b, 112, none⟩) 1 4) GN.refl fun w_ hJ hd => ?_) ?_
      · have e3 : vals 3 = _ := hd 3 (by decide) (by kernel_rfl)
        have e8 : vals 8 = _ := hd 8 (by decide) (by kernel_rfl)
        rw [e3, e8]
        exact ⟨by kernel_rfl, by kernel_rfl, rfl⟩
      refine wpG_cons (gval (.pointer (some ⟨bm, 0, none⟩)) GN.refl fun w_ hJ hd => ?_) ?_
      · exact ⟨by kernel_rfl, by kernel_rfl, rfl⟩
      refine wpG_cons (gval (.slice (some ⟨bm, 0, none⟩) 4 4) GN.refl fun w_ hJ hd => ?_) wpG_nil
      · have e10 : vals 10 = _ := hd 10 (by decide) (by kernel_rfl)
        rw [e10]
        exact ⟨by kernel_rfl, by kernel_rfl, rfl⟩
    · intro vals w_ hJ hf
      have e0 : vals 0 = _ := hf 0 (by decide)
      have e1 : vals 1 = _ := hf 1 (by decide)
      have e2 : vals 2 = _ := hf 2 (by decide)
      have e3 : vals 3 = _ := hf 3 (by decide)
      have e4 : vals 4 = _ := hf 4 (by decide)
      have e5 : vals 5 = _ := hf 5 (by decide)
      have e6 : vals 6 = _ := hf 6 (by decide)
      have e7 : vals 7 = _ := hf 7 (by decide)
      have e8 : vals 8 = _ := hf 8 (by decide)
      have e9 : vals 9 = _ := hf 9 (by decide)
      have e10 : vals 10 = _ := hf 10 (by decide)
      have e11 : vals 11 = _ := hf 11 (by decide)
      show Oper.wp _ _ (fillG vals 0 (_ :: _ :: _ :: _ :: _ :: _ :: _ :: _ :: _ :: _ :: _ :: _ :: []) _) _ _ _
      simp only [fillG, Nat.zero_add, Nat.reduceAdd, e0, e1, e2, e3, e4, e5, e6, e7, e8, e9, e10, e11, Act.put, List.setIfInBounds_toArray, List.set_cons_succ, List.set_cons_zero]
      clear e0 e1 e2 e3 e4 e5 e6 e7 e8 e9 e10 e11 hf
      refine wp_last_value (w' := w_.setCells b 112 [.int .u64 m0]) (v := goInt 1) (Eq.trans (b := Sem.run Try.prog (do let r ← Builtin.copy_ #[59, 59] 3 #[.slice (some ⟨b, 112, none⟩) 1 4, .slice (some ⟨bm, 0, none⟩) 4 4]; pure (Next.value r) : Sem Next) w_) (by kernel_rfl) (run_val (run_copy_cells w_ 59 59 3 22 b 112 1 4 ⟨bm, 0, none⟩ 4 4 [.int .u64 m0] Try.underlying59 (by kernel_rfl) rfl ?_ ?_ ?_ ?_))) ?_
      · intro j v hj
        have h3 : j = 0 := by
          have := (List.getElem?_eq_some_iff.1 hj).1
          simp at this
          omega
        rcases h3 with rfl
        · simp at hj; subst hj; exact (cell_blk (xs := [.int .u64 m0, .int .u64 m1, .int .u64 m2, .int .u64 m3, .int .i64 1, .int .u64 hs]) hJ.f2.heap 0).1
      · intro j hj
        simp at hj
        rw [(gcell hJ.heap (i := 112 + j) (by omega)).1]; rfl
      · intro j hj
        simp at hj
        exact (gcell hJ.heap (i := 112 + j) (by omega)).2
      · intro v hv
        simp at hv
        rcases hv with rfl <;> rfl
      simp only [Act.put]
      have h4 : Heap w0 (w_.setCells b 112 [.int .u64 m0]) (HP.blk b (gl (upd (upd (upd (upd (upd (upd (upd c 112 0) 113 0) 114 0) 115 0) 116 1) 117 (hs % 64)) 112 m0)).toArray 56 :: HP.blk bm #[.int .u64 m0, .int .u64 m1, .int .u64 m2, .int .u64 m3, .int .i64 1, .int .u64 hs] 31 :: L) := (hJ.gset 112 m0 (k := .u64) rfl)
      have hst : upd (upd (upd (upd (upd (upd (upd c 112 0) 113 0) 114 0) 115 0) 116 1) 117 (hs % 64)) 112 m0 = backS c (fun i => if i = 0 then m0 else if i = 1 then m1 else if i = 2 then m2 else m3) 1 hs := by
        funext i
        have hcl := unhide Hcl
        by_cases hi : i < 112 ∨ 117 < i
        · unfold backS upd
          repeat rw [if_neg (by omega)]
        · have hi6 : i = 112 ∨ i = 113 ∨ i = 114 ∨ i = 115 ∨ i = 116 ∨ i = 117 := by omega
          unfold backS
          rw [hcl]
          rcases hi6 with rfl | rfl | rfl | rfl | rfl | rfl <;> simp [upd]
      rw [hst] at h4
      have h4 := h4.f2.tail
      clear hJ hst
      exact bodyPost_end (v := .tuple #[]) (by simp [results, Try.results17, go_sem]) rfl ⟨rfl, h4⟩
  · subst hq
    have hcl : clamp 2 = 2 := by unfold clamp; omega
    have Hcl := hide hcl
    clear hcl
    go_wp2_with fail
    have J2 := ((((((J1.gset 112 0 (k := .u64) rfl).gset 113 0 (k := .u64) rfl).gset 114 0 (k := .u64) rfl).gset 115 0 (k := .u64) rfl).gset 116 2 (k := .i64) rfl).gset 117 (hs % 64) (k := .u64) rfl)
    clear J1 d0f d1f d2f d3f d4f d5f
    refine wp_region_E (fun w_ => Heap w0 w_ (HP.blk b (gl (upd (upd (upd (upd (upd (upd c 112 0) 113 0) 114 0) 115 0) 116 2) 117 (hs % 64))).toArray 56 :: HP.blk bm #[.int .u64 m0, .int .u64 m1, .int .u64 m2, .int .u64 m3, .int .i64 2, .int .u64 hs] 31 :: L)) GN (fun k_ v_ w_ => match k_ with
        | 0 => v_ = .pointer (some ⟨b, 0, none⟩)
        | 1 => v_ = .pointer (some ⟨b, 0, none⟩)
        | 2 => v_ = .pointer (some ⟨b, 112, none⟩)
        | 3 => v_ = .pointer (some ⟨b, 112, none⟩)
        | 4 => v_ = .pointer (some ⟨b, 0, none⟩)
        | 5 => v_ = .pointer (some ⟨b, 0, none⟩)
        | 6 => v_ = .pointer (some ⟨b, 112, none⟩)
        | 7 => v_ = .pointer (some ⟨b, 116, none⟩)
        | 8 => v_ = .int .i64 2
        | 9 => v_ = .slice (some ⟨b, 112, none⟩) 2 4
        | 10 => v_ = .pointer (some ⟨bm, 0, none⟩)
        | _ => v_ = .slice (some ⟨bm, 0, none⟩) 4 4) fol (by kernel_rfl) ?_ ?_ (n := 12) rfl rfl rfl (by kernel_rfl) ?_ ?_
    · exact J2.drew
    · intro k_ v_ w_ w2_ h1 hg
      split at h1 <;> exact h1
    · intro vals
      show wpG _ _ _ _ _ _ 0 (_ :: _) _
      refine wpG_cons (gval (.pointer (some ⟨b, 0, none⟩)) GN.refl fun w_ hJ hd => ?_) ?_
      · exact ⟨by kernel_rfl, by kernel_rfl, rfl⟩
      refine wpG_cons (gval (.pointer (some ⟨b, 0, none⟩)) GN.refl fun w_ hJ hd => ?_) ?_
      · have e0 : vals 0 = _ := hd 0 (by decide) (by kernel_rfl)
        rw [e0]
        exact ⟨by kernel_rfl, by kernel_rfl, rfl⟩
      refine wpG_cons (gval (.pointer (some ⟨b, 112, none⟩)) GN.refl fun w_ hJ hd => ?_) ?_
      · have e1 : vals 1 = _ := hd 1 (by decide) (by kernel_rfl)
        rw [e1]
        exact ⟨by kernel_rfl, by kernel_rfl, rfl⟩
      refine wpG_cons (gval (.pointer (some ⟨b, 112, none⟩)) GN.refl fun w_ hJ hd => ?_) ?_
      · have e2 : vals 2 = _ := hd 2 (by decide) (by kernel_rfl)
        rw [e2]
        exact ⟨by kernel_rfl, by kernel_rfl, rfl⟩
      refine wpG_cons (gval (.pointer (some ⟨b, 0, none⟩)) GN.refl fun w_ hJ hd => ?_) ?_
      · exact ⟨by kernel_rfl, by kernel_rfl, rfl⟩
      refine wpG_cons (gval (.pointer (some ⟨b, 0, none⟩)) GN.refl fun w_ hJ hd => ?_) ?_
      · have e4 : vals 4 = _ := hd 4 (by decide) (by kernel_rfl)
        rw [e4]
        exact ⟨by kernel_rfl, by kernel_rfl, rfl⟩
      refine wpG_cons (gval (.pointer (some ⟨b, 112, none⟩)) GN.refl fun w_ hJ hd => ?_) ?_
      · have e5 : vals 5 = _ := hd 5 (by decide) (by kernel_rfl)
        rw [e5]
        exact ⟨by kernel_rfl, by kernel_rfl, rfl⟩
      refine wpG_cons (gval (.pointer (some ⟨b, 116, none⟩)) GN.refl fun w_ hJ hd => ?_) ?_
      · have e6 : vals 6 = _ := hd 6 (by decide) (by kernel_rfl)
        rw [e6]
        exact ⟨by kernel_rfl, by kernel_rfl, rfl⟩
      refine wpG_cons (gop (Instr.loadAt 3 (.pointer (some ⟨b, 116, none⟩))) (.int .i64 2) GN.refl fun w_ hJ hd => ?_) ?_
      · have e7 : vals 7 = _ := hd 7 (by decide) (by kernel_rfl)
        rw [e7]
        exact ⟨by kernel_rfl, by kernel_rfl, run_ldv hJ.heap (by omega) (by kernel_rfl) rfl (by simp [upd]), rfl⟩
      refine wpG_cons (gval (.slice (some ⟨b, 112, none⟩) 2 4) GN.refl fun w_ hJ hd => ?_) ?_
      · have e3 : vals 3 = _ := hd 3 (by decide) (by kernel_rfl)
        have e8 : vals 8 = _ := hd 8 (by decide) (by kernel_rfl)
        rw [e3, e8]
        exact ⟨by kernel_rfl, by kernel_rfl, rfl⟩
      refine wpG_cons (gval (.pointer (some ⟨bm, 0, none⟩)) GN.refl fun w_ hJ hd => ?_) ?_
      · exact ⟨by kernel_rfl, by kernel_rfl, rfl⟩
      refine wpG_cons (gval (.slice (some ⟨bm, 0, none⟩) 4 4) GN.refl fun w_ hJ hd => ?_) wpG_nil
      · have e10 : vals 10 = _ := hd 10 (by decide) (by kernel_rfl)
        rw [e10]
        exact ⟨by kernel_rfl, by kernel_rfl, rfl⟩
    · intro vals w_ hJ hf
      have e0 : vals 0 = _ := hf 0 (by decide)
      have e1 : vals 1 = _ := hf 1 (by decide)
      have e2 : vals 2 = _ := hf 2 (by decide)
      have e3 : vals 3 = _ := hf 3 (by decide)
      have e4 : vals 4 = _ := hf 4 (by decide)
      have e5 : vals 5 = _ := hf 5 (by decide)
      have e6 : vals 6 = _ := hf 6 (by decide)
      have e7 : vals 7 = _ := hf 7 (by decide)
      have e8 : vals 8 = _ := hf 8 (by decide)
      have e9 : vals 9 = _ := hf 9 (by decide)
      have e10 : vals 10 = _ := hf 10 (by decide)
      have e11 : vals 11 = _ := hf 11 (by decide)
      show Oper.wp _ _ (fillG vals 0 (_ :: _ :: _ :: _ :: _ :: _ :: _ :: _ :: _ :: _ :: _ :: _ :: []) _) _ _ _
      simp only [fillG, Nat.zero_add, Nat.reduceAdd, e0, e1, e2, e3, e4, e5, e6, e7, e8, e9, e10, e11, Act.put, List.setIfInBounds_toArray, List.set_cons_succ, List.set_cons_zero]
      clear e0 e1 e2 e3 e4 e5 e6 e7 e8 e9 e10 e11 hf
      refine wp_last_value (w' := w_.setCells b 112 [.int .u64 m0, .int .u64 m1]) (v := goInt 2) (Eq.trans (b := Sem.run Try.prog (do let r ← Builtin.copy_ #[59, 59] 3 #[.slice (some ⟨b, 112, none⟩) 2 4, .slice (some ⟨bm, 0, none⟩) 4 4]; pure (Next.value r) : Sem Next) w_) (by kernel_rfl) (run_val (run_copy_cells w_ 59 59 3 22 b 112 2 4 ⟨bm, 0, none⟩ 4 4 [.int .u64 m0, .int .u64 m1] Try.underlying59 (by kernel_rfl) rfl ?_ ?_ ?_ ?_))) ?_
      · intro j v hj
        have h3 : j = 0 ∨ j = 1 := by
          have := (List.getElem?_eq_some_iff.1 hj).1
          simp at this
          omega
        rcases h3 with rfl | rfl
        · simp at hj; subst hj; exact (cell_blk (xs := [.int .u64 m0, .int .u64 m1, .int .u64 m2, .int .u64 m3, .int .i64 2, .int .u64 hs]) hJ.f2.heap 0).1
        · simp at hj; subst hj; exact (cell_blk (xs := [.int .u64 m0, .int .u64 m1, .int .u64 m2, .int .u64 m3, .int .i64 2, .int .u64 hs]) hJ.f2.heap 1).1
      · intro j hj
        simp at hj
        rw [(gcell hJ.heap (i := 112 + j) (by omega)).1]; rfl
      · intro j hj
        simp at hj
        exact (gcell hJ.heap (i := 112 + j) (by omega)).2
      · intro v hv
        simp at hv
        rcases hv with rfl | rfl <;> rfl
      simp only [Act.put]
      have h4 : Heap w0 (w_.setCells b 112 [.int .u64 m0, .int .u64 m1]) (HP.blk b (gl (upd (upd (upd (upd (upd (upd (upd (upd c 112 0) 113 0) 114 0) 115 0) 116 2) 117 (hs % 64)) 112 m0) 113 m1)).toArray 56 :: HP.blk bm #[.int .u64 m0, .int .u64 m1, .int .u64 m2, .int .u64 m3, .int .i64 2, .int .u64 hs] 31 :: L) := ((hJ.gset 112 m0 (k := .u64) rfl).gset 113 m1 (k := .u64) rfl)
      have hst : upd (upd (upd (upd (upd (upd (upd (upd c 112 0) 113 0) 114 0) 115 0) 116 2) 117 (hs % 64)) 112 m0) 113 m1 = backS c (fun i => if i = 0 then m0 else if i = 1 then m1 else if i = 2 then m2 else m3) 2 hs := by
        funext i
        have hcl := unhide Hcl
        by_cases hi : i < 112 ∨ 117 < i
        · unfold backS upd
          repeat rw [if_neg (by omega)]
        · have hi6 : i = 112 ∨ i = 113 ∨ i = 114 ∨ i = 115 ∨ i = 116 ∨ i = 117 := by omega
          unfold backS
          rw [hcl]
          rcases hi6 with rfl | rfl | rfl | rfl | rfl | rfl <;> simp [upd]
      rw [hst] at h4
      have h4 := h4.f2.tail
      clear hJ hst
      exact bodyPost_end (v := .tuple #[]) (by simp [results, Try.results17, go_sem]) rfl ⟨rfl, h4⟩
  · subst hq
    have hcl : clamp 3 = 3 := by unfold clamp; omega
    have Hcl := hide hcl
    clear hcl
    go_wp2_with fail
    have J2 := ((((((J1.gset 112 0 (k := .u64) rfl).gset 113 0 (k := .u64) rfl).gset 114 0 (k := .u64) rfl).gset 115 0 (k := .u64) rfl).gset 116 3 (k := .i64) rfl).gset 117 (hs % 64) (k := .u64) rfl)
    clear J1 d0f d1f d2f d3f d4f d5f
    refine wp_region_E (fun w_ => Heap w0 w_ (HP.blk b (gl (upd (upd (upd (upd (upd (upd c 112 0) 113 0) 114 0) 115 0) 116 3) 117 (hs % 64))).toArray 56 :: HP.blk bm #[.int .u64 m0, .int .u64 m1, .int .u64 m2, .int .u64 m3, .int .i64 3, .int .u64 hs] 31 :: L)) GN (fun k_ v_ w_ => match k_ with
        | 0 => v_ = .pointer (some ⟨b, 0, none⟩)
        | 1 => v_ = .pointer (some ⟨b, 0, none⟩)
        | 2 => v_ = .pointer (some ⟨b, 112, none⟩)
        | 3 => v_ = .pointer (some ⟨b, 112, none⟩)
        | 4 => v_ = .pointer (some ⟨b, 0, none⟩)
        | 5 => v_ = .pointer (some ⟨b, 0, none⟩)
        | 6 => v_ = .pointer (some ⟨b, 112, none⟩)
        | 7 => v_ = .pointer (some ⟨b, 116, none⟩)
        | 8 => v_ = .int .i64 3
        | 9 => v_ = .slice (some ⟨b, 112, none⟩) 3 4
        | 10 => v_ = .pointer (some ⟨bm, 0, none⟩)
        | _ => v_ = .slice (some ⟨bm, 0, none⟩) 4 4) fol (by kernel_rfl) ?_ ?_ (n := 12) rfl rfl rfl (by kernel_rfl) ?_ ?_
    · exact J2.drew
    · intro k_ v_ w_ w2_ h1 hg
      split at h1 <;> exact h1
    · intro vals
      show wpG _ _ _ _ _ _ 0 (_ :: _) _
      refine wpG_cons (gval (.pointer (some ⟨b, 0, none⟩)) GN.refl fun w_ hJ hd => ?_) ?_
      · exact ⟨by kernel_rfl, by kernel_rfl, rfl⟩
      refine wpG_cons (gval (.pointer (some ⟨b, 0, none⟩)) GN.refl fun w_ hJ hd => ?_) ?_
      · have e0 : vals 0 = _ := hd 0 (by decide) (by kernel_rfl)
        rw [e0]
        exact ⟨by kernel_rfl, by kernel_rfl, rfl⟩
      refine wpG_cons (gval (.pointer (some ⟨b, 112, none⟩)) GN.refl fun w_ hJ hd => ?_) ?_
      · have e1 : vals 1 = _ := hd 1 (by decide) (by kernel_rfl)
        rw [e1]
        exact ⟨by kernel_rfl, by kernel_rfl, rfl⟩
      refine wpG_cons (gval (.pointer (some ⟨b, 112, none⟩)) GN.refl fun w_ hJ hd => ?_) ?_
      · have e2 : vals 2 = _ := hd 2 (by decide) (by kernel_rfl)
        rw [e2]
        exact ⟨by kernel_rfl, by kernel_rfl, rfl⟩
      refine wpG_cons (gval (.pointer (some ⟨b, 0, none⟩)) GN.refl fun w_ hJ hd => ?_) ?_
      · exact ⟨by kernel_rfl, by kernel_rfl, rfl⟩
      refine wpG_cons (gval (.pointer (some ⟨b, 0, none⟩)) GN.refl fun w_ hJ hd => ?_) ?_
      · have e4 : vals 4 = _ := hd 4 (by decide) (by kernel_rfl)
        rw [e4]
        exact ⟨by kernel_rfl, by kernel_rfl, rfl⟩
      refine wpG_cons (gval (.pointer (some ⟨b, 112, none⟩)) GN.refl fun w_ hJ hd => ?_) ?_
      · have e5 : vals 5 = _ := hd 5 (by decide) (by kernel_rfl)
        rw [e5]
        exact ⟨by kernel_rfl, by kernel_rfl, rfl⟩
      refine wpG_cons (gval (.pointer (some ⟨b, 116, none⟩)) GN.refl fun w_ hJ hd => ?_) ?_
      · have e6 : vals 6 = _ := hd 6 (by decide) (by kernel_rfl)
        rw [e6]
        exact ⟨by kernel_rfl, by kernel_rfl, rfl⟩
      refine wpG_cons (gop (Instr.loadAt 3 (.pointer (some ⟨b, 116, none⟩))) (.int .i64 3) GN.refl fun w_ hJ hd => ?_) ?_
      · have e7 : vals 7 = _ := hd 7 (by decide) (by kernel_rfl)
        rw [e7]
        exact ⟨by kernel_rfl, by kernel_rfl, run_ldv hJ.heap (by omega) (by kernel_rfl) rfl (by simp [upd]), rfl⟩
      refine wpG_cons (gval (.slice (some ⟨b, 112, none⟩) 3 4) GN.refl fun w_ hJ hd => ?_) ?_
      · have e3 : vals 3 = _ := hd 3 (by decide) (by kernel_rfl)
        have e8 : vals 8 = _ := hd 8 (by decide) (by kernel_rfl)
        rw [e3, e8]
        exact ⟨by kernel_rfl, by kernel_rfl, rfl⟩
      refine wpG_cons (gval (.pointer (some ⟨bm, 0, none⟩)) GN.refl fun w_ hJ hd => ?_) ?_
      · exact ⟨by kernel_rfl, by kernel_rfl, rfl⟩
      refine wpG_cons (gval (.slice (some ⟨bm, 0, none⟩) 4 4) GN.refl fun w_ hJ hd => ?_) wpG_nil
      · have e10 : vals 10 = _ := hd 10 (by decide) (by kernel_rfl)
        rw [e10]
        exact ⟨by kernel_rfl, by kernel_rfl, rfl⟩
    · intro vals w_ hJ hf
      have e0 : vals 0 = _ := hf 0 (by decide)
      have e1 : vals 1 = _ := hf 1 (by decide)
      have e2 : vals 2 = _ := hf 2 (by decide)
      have e3 : vals 3 = _ := hf 3 (by decide)
      have e4 : vals 4 = _ := hf 4 (by decide)
      have e5 : vals 5 = _ := hf 5 (by decide)
      have e6 : vals 6 = _ := hf 6 (by decide)
      have e7 : vals 7 = _ := hf 7 (by decide)
      have e8 : vals 8 = _ := hf 8 (by decide)
      have e9 : vals 9 = _ := hf 9 (by decide)
      have e10 : vals 10 = _ := hf 10 (by decide)
      have e11 : vals 11 = _ := hf 11 (by decide)
      show Oper.wp _ _ (fillG vals 0 (_ :: _ :: _ :: _ :: _ :: _ :: _ :: _ :: _ :: _ :: _ :: _ :: []) _) _ _ _
      simp only [fillG, Nat.zero_add, Nat.reduceAdd, e0, e1, e2, e3, e4, e5, e6, e7, e8, e9, e10, e11, Act.put, List.setIfInBounds_toArray, List.set_cons_succ, List.set_cons_zero]
      clear e0 e1 e2 e3 e4 e5 e6 e7 e8 e9 e10 e11 hf
      refine wp_last_value (w' := w_.setCells b 112 [.int .u64 m0, .int .u64 m1, .int .u64 m2]) (v := goInt 3) (Eq.trans (b := Sem.run Try.prog (do let r ← Builtin.copy_ #[59, 59] 3 #[.slice (some ⟨b, 112, none⟩) 3 4, .slice (some ⟨bm, 0, none⟩) 4 4]; pure (Next.value r) : Sem Next) w_) (by kernel_rfl) (run_val (run_copy_cells w_ 59 59 3 22 b 112 3 4 ⟨bm, 0, none⟩ 4 4 [.int .u64 m0, .int .u64 m1, .int .u64 m2] Try.underlying59 (by kernel_rfl) rfl ?_ ?_ ?_ ?_))) ?_
      · intro j v hj
        have h3 : j = 0 ∨ j = 1 ∨ j = 2 := by
          have := (List.getElem?_eq_some_iff.1 hj).1
          simp at this
          omega
        rcases h3 with rfl | rfl | rfl
        · simp at hj; subst hj; exact (cell_blk (xs := [.int .u64 m0, .int .u64 m1, .int .u64 m2, .int .u64 m3, .int .i64 3, .int .u64 hs]) hJ.f2.heap 0).1
        · simp at hj; subst hj; exact (cell_blk (xs := [.int .u64 m0, .int .u64 m1, .int .u64 m2, .int .u64 m3, .int .i64 3, .int .u64 hs]) hJ.f2.heap 1).1
        · simp at hj; subst hj; exact (cell_blk (xs := [.int .u64 m0, .int .u64 m1, .int .u64 m2, .int .u64 m3, .int .i64 3, .int .u64 hs]) hJ.f2.heap 2).1
      · intro j hj
        simp at hj
        rw [(gcell hJ.heap (i := 112 + j) (by omega)).1]; rfl
      · intro j hj
        simp at hj
        exact (gcell hJ.heap (i := 112 + j) (by omega)).2
      · intro v hv
        simp at hv
        rcases hv with rfl | rfl | rfl <;> rfl
      simp only [Act.put]
      have h4 : Heap w0 (w_.setCells b 112 [.int .u64 m0, .int .u64 m1, .int .u64 m2]) (HP.blk b (gl (upd (upd (upd (upd (upd (upd (upd (upd (upd c 112 0) 113 0) 114 0) 115 0) 116 3) 117 (hs % 64)) 112 m0) 113 m1) 114 m2)).toArray 56 :: HP.blk bm #[.int .u64 m0, .int .u64 m1, .int .u64 m2, .int .u64 m3, .int .i64 3, .int .u64 hs] 31 :: L) := (((hJ.gset 112 m0 (k := .u64) rfl).gset 113 m1 (k := .u64) rfl).gset 114 m2 (k := .u64) rfl)
      have hst : upd (upd (upd (upd (upd (upd (upd (upd (upd c 112 0) 113 0) 114 0) 115 0) 116 3) 117 (hs % 64)) 112 m0) 113 m1) 114 m2 = backS c (fun i => if i = 0 then m0 else if i = 1 then m1 else if i = 2 then m2 else m3) 3 hs := by
        funext i
        have hcl := unhide Hcl
        by_cases hi : i < 112 ∨ 117 < i
        · unfold backS upd
          repeat rw [if_neg (by omega)]
        · have hi6 : i = 112 ∨ i = 113 ∨ i = 114 ∨ i = 115 ∨ i = 116 ∨ i = 117 := by omega
          unfold backS
          rw [hcl]
          rcases hi6 with rfl | rfl | rfl | rfl | rfl | rfl <;> simp [upd]
      rw [hst] at h4
      have h4 := h4.f2.tail
      clear hJ hst
      exact bodyPost_end (v := .tuple #[]) (by simp [results, Try.results17, go_sem]) rfl ⟨rfl, h4⟩
  · subst hq
    have hcl : clamp 4 = 4 := by unfold clamp; omega
    have Hcl := hide hcl
    clear hcl
    go_wp2_with fail
    have J2 := ((((((J1.gset 112 0 (k := .u64) rfl).gset 113 0 (k := .u64) rfl).gset 114 0 (k := .u64) rfl).gset 115 0 (k := .u64) rfl).gset 116 4 (k := .i64) rfl).gset 117 (hs % 64) (k := .u64) rfl)
    clear J1 d0f d1f d2f d3f d4f d5f
    refine wp_region_E (fun w_ => Heap w0 w_ (HP.blk b (gl (upd (upd (upd (upd (upd (upd c 112 0) 113 0) 114 0) 115 0) 116 4) 117 (hs % 64))).toArray 56 :: HP.blk bm #[.int .u64 m0, .int .u64 m1, .int .u64 m2, .int .u64 m3, .int .i64 4, .int .u64 hs] 31 :: L)) GN (fun k_ v_ w_ => match k_ with
        | 0 => v_ = .pointer (some ⟨b, 0, none⟩)
        | 1 => v_ = .pointer (some ⟨b, 0, none⟩)
        | 2 => v_ = .pointer (some ⟨b, 112, none⟩)
        | 3 => v_ = .pointer (some ⟨b, 112, none⟩)
        | 4 => v_ = .pointer (some ⟨b, 0, none⟩)
        | 5 => v_ = .pointer (some ⟨b, 0, none⟩)
        | 6 => v_ = .pointer (some ⟨b, 112, none⟩)
        | 7 => v_ = .pointer (some ⟨b, 116, none⟩)
        | 8 => v_ = .int .i64 4
        | 9 => v_ = .slice (some ⟨b, 112, none⟩) 4 4
        | 10 => v_ = .pointer (some ⟨bm, 0, none⟩)
        | _ => v_ = .slice (some ⟨bm, 0, none⟩) 4 4) fol (by kernel_rfl) ?_ ?_ (n := 12) rfl rfl rfl (by kernel_rfl) ?_ ?_
    · exact J2.drew
    · intro k_ v_ w_ w2_ h1 hg
      split at h1 <;> exact h1
    · intro vals
      show wpG _ _ _ _ _ _ 0 (_ :: _) _
      refine wpG_cons (gval (.pointer (some ⟨b, 0, none⟩)) GN.refl fun w_ hJ hd => ?_) ?_
      · exact ⟨by kernel_rfl, by kernel_rfl, rfl⟩
      refine wpG_cons (gval (.pointer (some ⟨b, 0, none⟩)) GN.refl fun w_ hJ hd => ?_) ?_
      · have e0 : vals 0 = _ := hd 0 (by decide) (by kernel_rfl)
        rw [e0]
        exact ⟨by kernel_rfl, by kernel_rfl, rfl⟩
      refine wpG_cons (gval (.pointer (some ⟨b, 112, none⟩)) GN.refl fun w_ hJ hd => ?_) ?_
      · have e1 : vals 1 = _ := hd 1 (by decide) (by kernel_rfl)
        rw [e1]
        exact ⟨by kernel_rfl, by kernel_rfl, rfl⟩
      refine wpG_cons (gval (.pointer (some ⟨b, 112, none⟩)) GN.refl fun w_ hJ hd => ?_) ?_
      · have e2 : vals 2 = _ := hd 2 (by decide) (by kernel_rfl)
        rw [e2]
        exact ⟨by kernel_rfl, by kernel_rfl, rfl⟩
      refine wpG_cons (gval (.pointer (some ⟨b, 0, none⟩)) GN.refl fun w_ hJ hd => ?_) ?_
      · exact ⟨by kernel_rfl, by kernel_rfl, rfl⟩
      refine wpG_cons (gval (.pointer (some ⟨b, 0, none⟩)) GN.refl fun w_ hJ hd => ?_) ?_
      · have e4 : vals 4 = _ := hd 4 (by decide) (by kernel_rfl)
        rw [e4]
        exact ⟨by kernel_rfl, by kernel_rfl, rfl⟩
      refine wpG_cons (gval (.pointer (some ⟨b, 112, none⟩)) GN.refl fun w_ hJ hd => ?_) ?_
      · have e5 : vals 5 = _ := hd 5 (by decide) (by kernel_rfl)
        rw [e5]
        exact ⟨by kernel_rfl, by kernel_rfl, rfl⟩
      refine wpG_cons (gval (.pointer (some ⟨b, 116, none⟩)) GN.refl fun w_ hJ hd => ?_) ?_
      · have e6 : vals 6 = _ := hd 6 (by decide) (by kernel_rfl)
        rw [e6]
        exact ⟨by kernel_rfl, by kernel_rfl, rfl⟩
      refine wpG_cons (gop (Instr.loadAt 3 (.pointer (some ⟨b, 116, none⟩))) (.int .i64 4) GN.refl fun w_ hJ hd => ?_) ?_
      · have e7 : vals 7 = _ := hd 7 (by decide) (by kernel_rfl)
        rw [e7]
        exact ⟨by kernel_rfl, by kernel_rfl, run_ldv hJ.heap (by omega) (by kernel_rfl) rfl (by simp [upd]), rfl⟩
      refine wpG_cons (gval (.slice (some ⟨b, 112, none⟩) 4 4) GN.refl fun w_ hJ hd => ?_) ?_
      · have e3 : vals 3 = _ := hd 3 (by decide) (by kernel_rfl)
        have e8 : vals 8 = _ := hd 8 (by decide) (by kernel_rfl)
        rw [e3, e8]
        exact ⟨by kernel_rfl, by kernel_rfl, rfl⟩
      refine wpG_cons (gval (.pointer (some ⟨bm, 0, none⟩)) GN.refl fun w_ hJ hd => ?_) ?_
      · exact ⟨by kernel_rfl, by kernel_rfl, rfl⟩
      refine wpG_cons (gval (.slice (some ⟨bm, 0, none⟩) 4 4) GN.refl fun w_ hJ hd => ?_) wpG_nil
      · have e10 : vals 10 = _ := hd 10 (by decide) (by kernel_rfl)
        rw [e10]
        exact ⟨by kernel_rfl, by kernel_rfl, rfl⟩
    · intro vals w_ hJ hf
      have e0 : vals 0 = _ := hf 0 (by decide)
      have e1 : vals 1 = _ := hf 1 (by decide)
      have e2 : vals 2 = _ := hf 2 (by decide)
      have e3 : vals 3 = _ := hf 3 (by decide)
      have e4 : vals 4 = _ := hf 4 (by decide)
      have e5 : vals 5 = _ := hf 5 (by decide)
      have e6 : vals 6 = _ := hf 6 (by decide)
      have e7 : vals 7 = _ := hf 7 (by decide)
      have e8 : vals 8 = _ := hf 8 (by decide)
      have e9 : vals 9 = _ := hf 9 (by decide)
      have e10 : vals 10 = _ := hf 10 (by decide)
      have e11 : vals 11 = _ := hf 11 (by decide)
      show Oper.wp _ _ (fillG vals 0 (_ :: _ :: _ :: _ :: _ :: _ :: _ :: _ :: _ :: _ :: _ :: _ :: []) _) _ _ _
      simp only [fillG, Nat.zero_add, Nat.reduceAdd, e0, e1, e2, e3, e4, e5, e6, e7, e8, e9, e10, e11, Act.put, List.setIfInBounds_toArray, List.set_cons_succ, List.set_cons_zero]
      clear e0 e1 e2 e3 e4 e5 e6 e7 e8 e9 e10 e11 hf
      refine wp_last_value (w' := w_.setCells b 112 [.int .u64 m0, .int .u64 m1, .int .u64 m2, .int .u64 m3]) (v := goInt 4) (Eq.trans (b := Sem.run Try.prog (do let r ← Builtin.copy_ #[59, 59] 3 #[.slice (some ⟨b, 112, none⟩) 4 4, .slice (some ⟨bm, 0, none⟩) 4 4]; pure (Next.value r) : Sem Next) w_) (by kernel_rfl) (run_val (run_copy_cells w_ 59 59 3 22 b 112 4 4 ⟨bm, 0, none⟩ 4 4 [.int .u64 m0, .int .u64 m1, .int .u64 m2, .int .u64 m3] Try.underlying59 (by kernel_rfl) rfl ?_ ?_ ?_ ?_))) ?_
      · intro j v hj
        have h3 : j = 0 ∨ j = 1 ∨ j = 2 ∨ j = 3 := by
          have := (List.getElem?_eq_some_iff.1 hj).1
          simp at this
          omega
        rcases h3 with rfl | rfl | rfl | rfl
        · simp at hj; subst hj; exact (cell_blk (xs := [.int .u64 m0, .int .u64 m1, .int .u64 m2, .int .u64 m3, .int .i64 4, .int .u64 hs]) hJ.f2.heap 0).1
        · simp at hj; subst hj; exact (cell_blk (xs := [.int .u64 m0, .int .u64 m1, .int .u64 m2, .int .u64 m3, .int .i64 4, .int .u64 hs]) hJ.f2.heap 1).1
        · simp at hj; subst hj; exact (cell_blk (xs := [.int .u64 m0, .int .u64 m1, .int .u64 m2, .int .u64 m3, .int .i64 4, .int .u64 hs]) hJ.f2.heap 2).1
        · simp at hj; subst hj; exact (cell_blk (xs := [.int .u64 m0, .int .u64 m1, .int .u64 m2, .int .u64 m3, .int .i64 4, .int .u64 hs]) hJ.f2.heap 3).1
      · intro j hj
        simp at hj
        rw [(gcell hJ.heap (i := 112 + j) (by omega)).1]; rfl
      · intro j hj
        simp at hj
        exact (gcell hJ.heap (i := 112 + j) (by omega)).2
      · intro v hv
        simp at hv
        rcases hv with rfl | rfl | rfl | rfl <;> rfl
      simp only [Act.put]
      have h4 : Heap w0 (w_.setCells b 112 [.int .u64 m0, .int .u64 m1, .int .u64 m2, .int .u64 m3]) (HP.blk b (gl (upd (upd (upd (upd (upd (upd (upd (upd (upd (upd c 112 0) 113 0) 114 0) 115 0) 116 4) 117 (hs % 64)) 112 m0) 113 m1) 114 m2) 115 m3)).toArray 56 :: HP.blk bm #[.int .u64 m0, .int .u64 m1, .int .u64 m2, .int .u64 m3, .int .i64 4, .int .u64 hs] 31 :: L) := ((((hJ.gset 112 m0 (k := .u64) rfl).gset 113 m1 (k := .u64) rfl).gset 114 m2 (k := .u64) rfl).gset 115 m3 (k := .u64) rfl)
      have hst : upd (upd (upd (upd (upd (upd (upd (upd (upd (upd c 112 0) 113 0) 114 0) 115 0) 116 4) 117 (hs % 64)) 112 m0) 113 m1) 114 m2) 115 m3 = backS c (fun i => if i = 0 then m0 else if i = 1 then m1 else if i = 2 then m2 else m3) 4 hs := by
        funext i
        have hcl := unhide Hcl
        by_cases hi : i < 112 ∨ 117 < i
        · unfold backS upd
          repeat rw [if_neg (by omega)]
        · have hi6 : i = 112 ∨ i = 113 ∨ i = 114 ∨ i = 115 ∨ i = 116 ∨ i = 117 := by omega
          unfold backS
          rw [hcl]
          rcases hi6 with rfl | rfl | rfl | rfl | rfl | rfl <;> simp [upd]
      rw [hst] at h4
      have h4 := h4.f2.tail
      clear hJ hst
      exact bodyPost_end (v := .tuple #[]) (by simp [results, Try.results17, go_sem]) rfl ⟨rfl, h4⟩
  · have hcl : clamp sz = 4 := by unfold clamp; omega
    have Hcl := hide hcl
    clear hcl
    have f1 : min sz 4 = 4 := by omega
    have f2 : min 4 sz = 4 := by omega
    go_wp2_with fail
    have J2 := ((((((J1.gset 112 0 (k := .u64) rfl).gset 113 0 (k := .u64) rfl).gset 114 0 (k := .u64) rfl).gset 115 0 (k := .u64) rfl).gset 116 4 (k := .i64) rfl).gset 117 (hs % 64) (k := .u64) rfl)
    clear J1 d0f d1f d2f d3f d4f d5f
    refine wp_region_E (fun w_ => Heap w0 w_ (HP.blk b (gl (upd (upd (upd (upd (upd (upd c 112 0) 113 0) 114 0) 115 0) 116 4) 117 (hs % 64))).toArray 56 :: HP.blk bm #[.int .u64 m0, .int .u64 m1, .int .u64 m2, .int .u64 m3, .int .i64 sz, .int .u64 hs] 31 :: L)) GN (fun k_ v_ w_ => match k_ with
        | 0 => v_ = .pointer (some ⟨b, 0, none⟩)
        | 1 => v_ = .pointer (some ⟨b, 0, none⟩)
        | 2 => v_ = .pointer (some ⟨b, 112, none⟩)
        | 3 => v_ = .pointer (some ⟨b, 112, none⟩)
        | 4 => v_ = .pointer (some ⟨b, 0, none⟩)
        | 5 => v_ = .pointer (some ⟨b, 0, none⟩)
        | 6 => v_ = .pointer (some ⟨b, 112, none⟩)
        | 7 => v_ = .pointer (some ⟨b, 116, none⟩)
        | 8 => v_ = .int .i64 4
        | 9 => v_ = .slice (some ⟨b, 112, none⟩) 4 4
        | 10 => v_ = .pointer (some ⟨bm, 0, none⟩)
        | _ => v_ = .slice (some ⟨bm, 0, none⟩) 4 4) fol (by kernel_rfl) ?_ ?_ (n := 12) rfl rfl rfl (by kernel_rfl) ?_ ?_
    · exact J2.drew
    · intro k_ v_ w_ w2_ h1 hg
      split at h1 <;> exact h1
    · intro vals
      show wpG _ _ _ _ _ _ 0 (_ :: _) _
      refine wpG_cons (gval (.pointer (some ⟨b, 0, none⟩)) GN.refl fun w_ hJ hd => ?_) ?_
      · exact ⟨by kernel_rfl, by kernel_rfl, rfl⟩
      refine wpG_cons (gval (.pointer (some ⟨b, 0, none⟩)) GN.refl fun w_ hJ hd => ?_) ?_
      · have e0 : vals 0 = _ := hd 0 (by decide) (by kernel_rfl)
        rw [e0]
        exact ⟨by kernel_rfl, by kernel_rfl, rfl⟩
      refine wpG_cons (gval (.pointer (some ⟨b, 112, none⟩)) GN.refl fun w_ hJ hd => ?_) ?_
      · have e1 : vals 1 = _ := hd 1 (by decide) (by kernel_rfl)
        rw [e1]
        exact ⟨by kernel_rfl, by kernel_rfl, rfl⟩
      refine wpG_cons (gval (.pointer (some ⟨b, 112, none⟩)) GN.refl fun w_ hJ hd => ?_) ?_
      · have e2 : vals 2 = _ := hd 2 (by decide) (by kernel_rfl)
        rw [e2]
        exact ⟨by kernel_rfl, by kernel_rfl, rfl⟩
      refine wpG_cons (gval (.pointer (some ⟨b, 0, none⟩)) GN.refl fun w_ hJ hd => ?_) ?_
      · exact ⟨by kernel_rfl, by kernel_rfl, rfl⟩
      refine wpG_cons (gval (.pointer (some ⟨b, 0, none⟩)) GN.refl fun w_ hJ hd => ?_) ?_
      · have e4 : vals 4 = _ := hd 4 (by decide) (by kernel_rfl)
        rw [e4]
        exact ⟨by kernel_rfl, by kernel_rfl, rfl⟩
      refine wpG_cons (gval (.pointer (some ⟨b, 112, none⟩)) GN.refl fun w_ hJ hd => ?_) ?_
      · have e5 : vals 5 = _ := hd 5 (by decide) (by kernel_rfl)
        rw [e5]
        exact ⟨by kernel_rfl, by kernel_rfl, rfl⟩
      refine wpG_cons (gval (.pointer (some ⟨b, 116, none⟩)) GN.refl fun w_ hJ hd => ?_) ?_
      · have e6 : vals 6 = _ := hd 6 (by decide) (by kernel_rfl)
        rw [e6]
        exact ⟨by kernel_rfl, by kernel_rfl, rfl⟩
      refine wpG_cons (gop (Instr.loadAt 3 (.pointer (some ⟨b, 116, none⟩))) (.int .i64 4) GN.refl fun w_ hJ hd => ?_) ?_
      · have e7 : vals 7 = _ := hd 7 (by decide) (by kernel_rfl)
        rw [e7]
        exact ⟨by kernel_rfl, by kernel_rfl, run_ldv hJ.heap (by omega) (by kernel_rfl) rfl (by simp [upd]), rfl⟩
      refine wpG_cons (gval (.slice (some ⟨b, 112, none⟩) 4 4) GN.refl fun w_ hJ hd => ?_) ?_
      · have e3 : vals 3 = _ := hd 3 (by decide) (by kernel_rfl)
        have e8 : vals 8 = _ := hd 8 (by decide) (by kernel_rfl)
        rw [e3, e8]
        exact ⟨by kernel_rfl, by kernel_rfl, rfl⟩
      refine wpG_cons (gval (.pointer (some ⟨bm, 0, none⟩)) GN.refl fun w_ hJ hd => ?_) ?_
      · exact ⟨by kernel_rfl, by kernel_rfl, rfl⟩
      refine wpG_cons (gval (.slice (some ⟨bm, 0, none⟩) 4 4) GN.refl fun w_ hJ hd => ?_) wpG_nil
      · have e10 : vals 10 = _ := hd 10 (by decide) (by kernel_rfl)
        rw [e10]
        exact ⟨by kernel_rfl, by kernel_rfl, rfl⟩
    · intro vals w_ hJ hf
      have e0 : vals 0 = _ := hf 0 (by decide)
      have e1 : vals 1 = _ := hf 1 (by decide)
      have e2 : vals 2 = _ := hf 2 (by decide)
      have e3 : vals 3 = _ := hf 3 (by decide)
      have e4 : vals 4 = _ := hf 4 (by decide)
      have e5 : vals 5 = _ := hf 5 (by decide)
      have e6 : vals 6 = _ := hf 6 (by decide)
      have e7 : vals 7 = _ := hf 7 (by decide)
      have e8 : vals 8 = _ := hf 8 (by decide)
      have e9 : vals 9 = _ := hf 9 (by decide)
      have e10 : vals 10 = _ := hf 10 (by decide)
      have e11 : vals 11 = _ := hf 11 (by decide)
      show Oper.wp _ _ (fillG vals 0 (_ :: _ :: _ :: _ :: _ :: _ :: _ :: _ :: _ :: _ :: _ :: _ :: []) _) _ _ _
      simp only [fillG, Nat.zero_add, Nat.reduceAdd, e0, e1, e2, e3, e4, e5, e6, e7, e8, e9, e10, e11, Act.put, List.setIfInBounds_toArray, List.set_cons_succ, List.set_cons_zero]
      clear e0 e1 e2 e3 e4 e5 e6 e7 e8 e9 e10 e11 hf
      refine wp_last_value (w' := w_.setCells b 112 [.int .u64 m0, .int .u64 m1, .int .u64 m2, .int .u64 m3]) (v := goInt 4) (Eq.trans (b := Sem.run Try.prog (do let r ← Builtin.copy_ #[59, 59] 3 #[.slice (some ⟨b, 112, none⟩) 4 4, .slice (some ⟨bm, 0, none⟩) 4 4]; pure (Next.value r) : Sem Next) w_) (by kernel_rfl) (run_val (run_copy_cells w_ 59 59 3 22 b 112 4 4 ⟨bm, 0, none⟩ 4 4 [.int .u64 m0, .int .u64 m1, .int .u64 m2, .int .u64 m3] Try.underlying59 (by kernel_rfl) rfl ?_ ?_ ?_ ?_))) ?_
      · intro j v hj
        have h3 : j = 0 ∨ j = 1 ∨ j = 2 ∨ j = 3 := by
          have := (List.getElem?_eq_some_iff.1 hj).1
          simp at this
          omega
        rcases h3 with rfl | rfl | rfl | rfl
        · simp at hj; subst hj; exact (cell_blk (xs := [.int .u64 m0, .int .u64 m1, .int .u64 m2, .int .u64 m3, .int .i64 sz, .int .u64 hs]) hJ.f2.heap 0).1
        · simp at hj; subst hj; exact (cell_blk (xs := [.int .u64 m0, .int .u64 m1, .int .u64 m2, .int .u64 m3, .int .i64 sz, .int .u64 hs]) hJ.f2.heap 1).1
        · simp at hj; subst hj; exact (cell_blk (xs := [.int .u64 m0, .int .u64 m1, .int .u64 m2, .int .u64 m3, .int .i64 sz, .int .u64 hs]) hJ.f2.heap 2).1
        · simp at hj; subst hj; exact (cell_blk (xs := [.int .u64 m0, .int .u64 m1, .int .u64 m2, .int .u64 m3, .int .i64 sz, .int .u64 hs]) hJ.f2.heap 3).1
      · intro j hj
        simp at hj
        rw [(gcell hJ.heap (i := 112 + j) (by omega)).1]; rfl
      · intro j hj
        simp at hj
        exact (gcell hJ.heap (i := 112 + j) (by omega)).2
      · intro v hv
        simp at hv
        rcases hv with rfl | rfl | rfl | rfl <;> rfl
      simp only [Act.put]
      have h4 : Heap w0 (w_.setCells b 112 [.int .u64 m0, .int .u64 m1, .int .u64 m2, .int .u64 m3]) (HP.blk b (gl (upd (upd (upd (upd (upd (upd (upd (upd (upd (upd c 112 0) 113 0) 114 0) 115 0) 116 4) 117 (hs % 64)) 112 m0) 113 m1) 114 m2) 115 m3)).toArray 56 :: HP.blk bm #[.int .u64 m0, .int .u64 m1, .int .u64 m2, .int .u64 m3, .int .i64 sz, .int .u64 hs] 31 :: L) := ((((hJ.gset 112 m0 (k := .u64) rfl).gset 113 m1 (k := .u64) rfl).gset 114 m2 (k := .u64) rfl).gset 115 m3 (k := .u64) rfl)
      have hst : upd (upd (upd (upd (upd (upd (upd (upd (upd (upd c 112 0) 113 0) 114 0) 115 0) 116 4) 117 (hs % 64)) 112 m0) 113 m1) 114 m2) 115 m3 = backS c (fun i => if i = 0 then m0 else if i = 1 then m1 else if i = 2 then m2 else m3) sz hs := by
        funext i
        have hcl := unhide Hcl
        by_cases hi : i < 112 ∨ 117 < i
        · unfold backS upd
          repeat rw [if_neg (by omega)]
        · have hi6 : i = 112 ∨ i = 113 ∨ i = 114 ∨ i = 115 ∨ i = 116 ∨ i = 117 := by omega
          unfold backS
          rw [hcl]
          rcases hi6 with rfl | rfl | rfl | rfl | rfl | rfl <;> simp [upd]
      rw [hst] at h4
      have h4 := h4.f2.tail
      clear hJ hst
      exact bodyPost_end (v := .tuple #[]) (by simp [results, Try.results17, go_sem]) rfl ⟨rfl, h4⟩
end
end Go.Proofs.Ytabkkeniaepibaa
