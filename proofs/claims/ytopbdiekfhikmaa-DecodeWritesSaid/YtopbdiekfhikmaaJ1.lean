/- Layer 3, the document's side: the rows. / Layer 3, the document's side: the instruction of a row. / Layer 3, the document's side: Decode. -/
import Derived.Test.YtopbdiekfhikmaaX5
import Derived.Test.YtopbdiekfhikmaaA1
import Derived.Test.YtopbdiekfhikmaaI3
namespace Go.Proofs.Ytopbdiekfhikmaa
open Go.RowKit
theorem rowsL_eq : rowsC (wholeL ++ systemL ++ floatL4 ++ floatL8) = rowsC rowsL := by kernel_rfl
theorem rowsC_len (l : List RowS) : (rowsC l).length = l.length * 7 := by
  induction l with
  | nil => rfl
  | cons r l ih => simp only [rowsC, List.flatMap_cons, List.length_append] at ih ⊢; rw [ih, List.length_cons]; simp [RowS.cs]; omega
section
variable {w0 w : World} {L : List HP}
set_option maxRecDepth 1000000 in
set_option maxHeartbeats 8000000 in
theorem rows_any (h : Heap w0 w L) : Calls Try.prog 31 #[] w fun r w' => ∃ A cap, r = .returned (.slice A 160 cap) ∧ Heap w0 w' (HP.slw (.slice A 160 cap) 7 160 (rowsC rowsL) :: L) := by
  have H := hide h
  clear h
  obtain ⟨i1, hi1, hz0, hz1, hz2⟩ := info_parts info49
  go_enter Try.func31, Try.ntmps31
  go_wp2_with fail
  refine (whole_any (unhide H)).mono ?_
  rintro r w1 ⟨A, m, cap, rfl, hm, h1⟩
  have H1 := hide h1
  clear h1 H
  obtain ⟨m1, hm1⟩ : ∃ z, m = z := ⟨_, rfl⟩
  rw [hm1] at H1 hm ⊢
  clear hm1
  have HM1 := hide hm
  clear hm
  go_wp2_with fail
  refine (rsystem_any (unhide H1)).mono ?_
  rintro r w2 ⟨A, m, cap, rfl, hm, h1⟩
  have H2 := hide h1
  clear h1 H1
  have hM1 := unhide HM1
  go_wp2_with (at_builtin; refine wpList_append_sl (n := m1) (m := m) rfl _ _ 46 rfl 49 i1 _ 7 48 Try.underlying46 hi1 hz0 hz1 hz2 rfl rfl rfl (unhide H2).f2.slw (unhide H2).slw (rowsC_cells _) (by omega) (by omega) ?_; intro v' w3 hsl hgr hblk hsp; obtain ⟨A', cap', rfl, _⟩ := hsl.parts; have hA := hide (((unhide H2).f2.appendw hsl hgr hblk).f2.tail); clear hsl hgr hblk hsp; refine unhide ?_)
  refine hide ?_
  have H3 := hide (show Heap w0 _ (HP.slw (.slice A' (m1 + m) cap') 7 (m1 + m) (rowsC (wholeL ++ systemL)) :: L) by rw [rowsC_app]; exact unhide hA)
  clear hA H2
  obtain ⟨m2, hm2⟩ : ∃ z, m1 + m = z := ⟨_, rfl⟩
  rw [hm2] at H3 ⊢
  have hM2 : m2 ≤ 200 := by omega
  clear hm2 hM1 hm HM1
  have HM2 := hide hM2
  clear hM2
  go_wp2_with fail
  refine (rfloat_4 (unhide H3)).mono ?_
  rintro r w4 ⟨A, m, cap, rfl, hm, h1⟩
  have H4 := hide h1
  clear h1 H3
  have hM2 := unhide HM2
  go_wp2_with (at_builtin; refine wpList_append_sl (n := m2) (m := m) rfl _ _ 46 rfl 49 i1 _ 7 48 Try.underlying46 hi1 hz0 hz1 hz2 rfl rfl rfl (unhide H4).f2.slw (unhide H4).slw (rowsC_cells _) (by omega) (by omega) ?_; intro v' w5 hsl hgr hblk hsp; obtain ⟨A', cap', rfl, _⟩ := hsl.parts; have hA := hide (((unhide H4).f2.appendw hsl hgr hblk).f2.tail); clear hsl hgr hblk hsp; refine unhide ?_)
  refine hide ?_
  have H5 := hide (show Heap w0 _ (HP.slw (.slice A' (m2 + m) cap') 7 (m2 + m) (rowsC (wholeL ++ systemL ++ floatL4)) :: L) by rw [rowsC_app _ floatL4]; exact unhide hA)
  clear hA H4
  obtain ⟨m3, hm3⟩ : ∃ z, m2 + m = z := ⟨_, rfl⟩
  rw [hm3] at H5 ⊢
  have hM3 : m3 ≤ 300 := by omega
  clear hm3 hM2 hm HM2
  have HM3 := hide hM3
  clear hM3
  go_wp2_with fail
  refine (rfloat_8 (unhide H5)).mono ?_
  rintro r w6 ⟨A, m, cap, rfl, hm, h1⟩
  have H6 := hide h1
  clear h1 H5
  have hM3 := unhide HM3
  go_wp2_with (at_builtin; refine wpList_append_sl (n := m3) (m := m) rfl _ _ 46 rfl 49 i1 _ 7 48 Try.underlying46 hi1 hz0 hz1 hz2 rfl rfl rfl (unhide H6).f2.slw (unhide H6).slw (rowsC_cells _) (by omega) (by omega) ?_; intro v' w7 hsl hgr hblk hsp; obtain ⟨A', cap', rfl, _⟩ := hsl.parts; have hA := hide (((unhide H6).f2.appendw hsl hgr hblk).f2.tail); clear hsl hgr hblk hsp; refine unhide ?_)
  refine hide ?_
  have h7 : Heap w0 w7 (HP.slw (.slice A' (m3 + m) cap') 7 (m3 + m) (rowsC rowsL) :: L) := by rw [← rowsL_eq, rowsC_app _ floatL8]; exact unhide hA
  clear hA H6
  have e : m3 + m = 160 := by
    have h8 := h7.slw.len
    rw [rowsC_len, show rowsL.length = 160 from rfl] at h8
    omega
  rw [e] at h7 ⊢
  have H7 := hide h7
  clear h7 e hM3 hm HM3
  go_wp2
  go_ret
  exact ⟨A', cap', rfl, unhide H7⟩
end
end Go.Proofs.Ytopbdiekfhikmaa
namespace Go.Proofs.Ytopbdiekfhikmaa
open Go.RowKit
def opt (q : Bool) (x : Nat) : Int := if q then (x : Int) else 0
theorem has_q (F : ByteArray) (hF : F.size ≤ 1000) (c : Int) (q : Bool) (hq : hasF F c = q) (w : World) : Calls Try.prog 44 #[.string F, .int .u8 c] w fun r w' => r = .returned (.bool q) ∧ w' = w := by
  subst hq
  exact has_any F hF c w
theorem c7 {W : World} {g : Nat} {v0 v1 v2 v3 v4 v5 v6 : Value} (h : W.heap[g]? = some (.cells #[v0, v1, v2, v3, v4, v5, v6] 49 (0, 0))) : (W.cell? ⟨g, 0, none⟩ = some v0 ∧ W.frozen? ⟨g, 0, none⟩ = false) ∧ (W.cell? ⟨g, 1, none⟩ = some v1 ∧ W.frozen? ⟨g, 1, none⟩ = false) ∧ (W.cell? ⟨g, 2, none⟩ = some v2 ∧ W.frozen? ⟨g, 2, none⟩ = false) ∧ (W.cell? ⟨g, 3, none⟩ = some v3 ∧ W.frozen? ⟨g, 3, none⟩ = false) ∧ (W.cell? ⟨g, 4, none⟩ = some v4 ∧ W.frozen? ⟨g, 4, none⟩ = false) ∧ (W.cell? ⟨g, 5, none⟩ = some v5 ∧ W.frozen? ⟨g, 5, none⟩ = false) ∧ (W.cell? ⟨g, 6, none⟩ = some v6 ∧ W.frozen? ⟨g, 6, none⟩ = false) := by
  have key := fun o => cell_blk (xs := [v0, v1, v2, v3, v4, v5, v6]) (T := 49) h o
  exact ⟨key 0, key 1, key 2, key 3, key 4, key 5, key 6⟩
set_option maxRecDepth 1000000 in
set_option maxHeartbeats 8000000 in
theorem read_w (mk bt kd sz : Int) (F : ByteArray) (wd us : Bool) (hF : F.size ≤ 1000) (b : Nat) (hb : b < 4294967296) (w : World) : Calls Try.prog 32 #[.agg #[.int .u32 mk, .int .u32 bt, .int .i64 kd, .string F, .int .i64 sz, .bool wd, .bool us], .int .u32 (b : Int)] w fun r w' => r = .returned (insV (readN ⟨mk, bt, kd, F, sz, wd, us⟩ b)) ∧ GN w w' := by
  obtain ⟨q1, hq1⟩ : ∃ q, hasF F 100 = q := ⟨_, rfl⟩
  have HQ1 := hide hq1
  clear hq1
  obtain ⟨q2, hq2⟩ : ∃ q, hasF F 49 = q := ⟨_, rfl⟩
  have HQ2 := hide hq2
  clear hq2
  obtain ⟨q3, hq3⟩ : ∃ q, hasF F 50 = q := ⟨_, rfl⟩
  have HQ3 := hide hq3
  clear hq3
  obtain ⟨q4, hq4⟩ : ∃ q, hasF F 51 = q := ⟨_, rfl⟩
  have HQ4 := hide hq4
  clear hq4
  obtain ⟨q5, hq5⟩ : ∃ q, hasF F 114 = q := ⟨_, rfl⟩
  have HQ5 := hide hq5
  clear hq5
  obtain ⟨q6, hq6⟩ : ∃ q, hasF F 99 = q := ⟨_, rfl⟩
  have HQ6 := hide hq6
  clear hq6
  go_enter Try.func32, Try.ntmps32
  go_upto_region 1 with fail
  have hW : GN w ((w.alloc (.cells #[.int .u32 mk, .int .u32 bt, .int .i64 kd, .string F, .int .i64 sz, .bool wd, .bool us] 49)).alloc (.cells #[.int .i64 0, .int .i64 0, .int .i64 0, .int .i64 0, .int .i64 0, .int .i64 0, .int .i64 0, .int .i64 0, .int .i64 0, .bool false, .bool false, .bool false] 25)) := ((GN.refl w).alloc _).alloc _
  have hr : ((w.alloc (.cells #[.int .u32 mk, .int .u32 bt, .int .i64 kd, .string F, .int .i64 sz, .bool wd, .bool us] 49)).alloc (.cells #[.int .i64 0, .int .i64 0, .int .i64 0, .int .i64 0, .int .i64 0, .int .i64 0, .int .i64 0, .int .i64 0, .int .i64 0, .bool false, .bool false, .bool false] 25)).heap[w.heap.size]? = some (.cells #[.int .u32 mk, .int .u32 bt, .int .i64 kd, .string F, .int .i64 sz, .bool wd, .bool us] 49 (0, 0)) := hp_alloc (heap_alloc_last w _)
  have hz : ((w.alloc (.cells #[.int .u32 mk, .int .u32 bt, .int .i64 kd, .string F, .int .i64 sz, .bool wd, .bool us] 49)).alloc (.cells #[.int .i64 0, .int .i64 0, .int .i64 0, .int .i64 0, .int .i64 0, .int .i64 0, .int .i64 0, .int .i64 0, .int .i64 0, .bool false, .bool false, .bool false] 25)).heap[w.heap.size + 1]? = some (.cells #[.int .i64 0, .int .i64 0, .int .i64 0, .int .i64 0, .int .i64 0, .int .i64 0, .int .i64 0, .int .i64 0, .int .i64 0, .bool false, .bool false, .bool false] 25 (0, 0)) := hp_last (by simp)
  have hsz : ((w.alloc (.cells #[.int .u32 mk, .int .u32 bt, .int .i64 kd, .string F, .int .i64 sz, .bool wd, .bool us] 49)).alloc (.cells #[.int .i64 0, .int .i64 0, .int .i64 0, .int .i64 0, .int .i64 0, .int .i64 0, .int .i64 0, .int .i64 0, .int .i64 0, .bool false, .bool false, .bool false] 25)).heap.size = w.heap.size + 1 + 1 := by simp
  obtain ⟨g4, h4⟩ : ∃ z, w.heap.size + 1 = z := ⟨_, rfl⟩
  obtain ⟨gr, h5⟩ : ∃ z, w.heap.size = z := ⟨_, rfl⟩
  have HWS : Hid (w.heap.size = gr) := hide h5
  have h4' : g4 = gr + 1 := by omega
  rw [h5] at hr
  rw [h4] at hz
  try rw [h4]
  try rw [h5]
  generalize (w.alloc (.cells #[.int .u32 mk, .int .u32 bt, .int .i64 kd, .string F, .int .i64 sz, .bool wd, .bool us] 49)).alloc (.cells #[.int .i64 0, .int .i64 0, .int .i64 0, .int .i64 0, .int .i64 0, .int .i64 0, .int .i64 0, .int .i64 0, .int .i64 0, .bool false, .bool false, .bool false] 25) = W at *
  have HSZ : Hid (W.heap.size = gr + 1 + 1) := hide (by rw [hsz, h5])
  have H4 : Hid (g4 = gr + 1) := hide h4'
  clear h4 h5 hsz h4'
  refine wp_region_E (fun w_ => GN W w_) GN (fun k_ v_ w_ => match k_ with
      | 0 => v_ = .pointer (some ⟨gr, 2, none⟩)
      | 1 => v_ = .int .i64 kd
      | 2 => v_ = .pointer (some ⟨gr, 4, none⟩)
      | 3 => v_ = .int .i64 sz
      | 4 => v_ = .pointer (some ⟨gr, 5, none⟩)
      | 5 => v_ = .bool wd
      | 6 => v_ = .pointer (some ⟨gr, 6, none⟩)
      | 7 => v_ = .bool us
      | 8 => v_ = .pointer (some ⟨gr, 3, none⟩)
      | 9 => v_ = .string F
      | 10 => v_ = .bool (hasF F 61)
      | 11 => v_ = .pointer (some ⟨gr, 3, none⟩)
      | 12 => v_ = .string F
      | 13 => v_ = .pointer (some ⟨gr, 5, none⟩)
      | 14 => v_ = .bool wd
      | 15 => v_ = .int .u32 (b : Int)
      | 16 => v_ = .int .i64 (immF F b)
      | 17 => v_ = .agg #[.int .i64 kd, .int .i64 0, .int .i64 0, .int .i64 0, .int .i64 0, .int .i64 0, .int .i64 0, .int .i64 sz, .int .i64 (immF F b), .bool (hasF F 61), .bool us, .bool wd]
      | _ => ∃ g, v_ = .pointer (some ⟨g, 0, none⟩) ∧ W.heap.size ≤ g ∧ w_.heap[g]? = some (.cells #[.int .i64 0, .int .i64 0, .int .i64 0, .int .i64 0, .int .i64 0, .int .i64 0, .int .i64 0, .int .i64 0, .int .i64 0, .bool false, .bool false, .bool false] 25 (0, 0))) fol (by kernel_rfl) ?_ ?_ (n := 19) rfl rfl rfl (by kernel_rfl) ?_ ?_
  · exact (GN.refl W).drew
  · intro k_ v_ w_ w2_ h1 hg
    split at h1 <;> first | exact h1 | (obtain ⟨g, e, hge, hh⟩ := h1; exact ⟨g, e, hge, GN.heap hg hh⟩)
  · intro vals
    show wpG _ _ _ _ _ _ 0 (_ :: _) _
    refine wpG_cons (gval (.pointer (some ⟨gr, 2, none⟩)) GN.refl fun w_ hJ hd => ?_) ?_
    · exact ⟨by kernel_rfl, by kernel_rfl, rfl⟩
    refine wpG_cons (gop (Instr.loadAt 3 (.pointer (some ⟨gr, 2, none⟩))) (.int .i64 kd) GN.refl fun w_ hJ hd => ?_) ?_
    · have e0 : vals 0 = _ := hd 0 (by decide) (by kernel_rfl)
      rw [e0]
      exact ⟨by kernel_rfl, by kernel_rfl, run_load1 (by kernel_rfl) (c7 (GN.heap hJ hr)).2.2.1.1, rfl⟩
    refine wpG_cons (gval (.pointer (some ⟨gr, 4, none⟩)) GN.refl fun w_ hJ hd => ?_) ?_
    · exact ⟨by kernel_rfl, by kernel_rfl, rfl⟩
    refine wpG_cons (gop (Instr.loadAt 3 (.pointer (some ⟨gr, 4, none⟩))) (.int .i64 sz) GN.refl fun w_ hJ hd => ?_) ?_
    · have e2 : vals 2 = _ := hd 2 (by decide) (by kernel_rfl)
      rw [e2]
      exact ⟨by kernel_rfl, by kernel_rfl, run_load1 (by kernel_rfl) (c7 (GN.heap hJ hr)).2.2.2.2.1.1, rfl⟩
    refine wpG_cons (gval (.pointer (some ⟨gr, 5, none⟩)) GN.refl fun w_ hJ hd => ?_) ?_
    · exact ⟨by kernel_rfl, by kernel_rfl, rfl⟩
    refine wpG_cons (gop (Instr.loadAt 4 (.pointer (some ⟨gr, 5, none⟩))) (.bool wd) GN.refl fun w_ hJ hd => ?_) ?_
    · have e4 : vals 4 = _ := hd 4 (by decide) (by kernel_rfl)
      rw [e4]
      exact ⟨by kernel_rfl, by kernel_rfl, run_load1 (by kernel_rfl) (c7 (GN.heap hJ hr)).2.2.2.2.2.1.1, rfl⟩
    refine wpG_cons (gval (.pointer (some ⟨gr, 6, none⟩)) GN.refl fun w_ hJ hd => ?_) ?_
    · exact ⟨by kernel_rfl, by kernel_rfl, rfl⟩
    refine wpG_cons (gop (Instr.loadAt 4 (.pointer (some ⟨gr, 6, none⟩))) (.bool us) GN.refl fun w_ hJ hd => ?_) ?_
    · have e6 : vals 6 = _ := hd 6 (by decide) (by kernel_rfl)
      rw [e6]
      exact ⟨by kernel_rfl, by kernel_rfl, run_load1 (by kernel_rfl) (c7 (GN.heap hJ hr)).2.2.2.2.2.2.1, rfl⟩
    refine wpG_cons (gval (.pointer (some ⟨gr, 3, none⟩)) GN.refl fun w_ hJ hd => ?_) ?_
    · exact ⟨by kernel_rfl, by kernel_rfl, rfl⟩
    refine wpG_cons (gop (Instr.loadAt 9 (.pointer (some ⟨gr, 3, none⟩))) (.string F) GN.refl fun w_ hJ hd => ?_) ?_
    · have e8 : vals 8 = _ := hd 8 (by decide) (by kernel_rfl)
      rw [e8]
      exact ⟨by kernel_rfl, by kernel_rfl, run_load1 (by kernel_rfl) (c7 (GN.heap hJ hr)).2.2.2.1.1, rfl⟩
    refine wpG_cons (gcall 44 #[.string F, .int .u8 61] fun w_ hJ hd => ?_) ?_
    · have e9 : vals 9 = _ := hd 9 (by decide) (by kernel_rfl)
      rw [e9]
      exact ⟨by kernel_rfl, by kernel_rfl, (has_any F hF 61 w_).mono fun e w2 ⟨he, hw⟩ => ⟨_, he, by subst hw; exact hJ, by subst hw; exact GN.refl _, rfl⟩⟩
    refine wpG_cons (gval (.pointer (some ⟨gr, 3, none⟩)) GN.refl fun w_ hJ hd => ?_) ?_
    · exact ⟨by kernel_rfl, by kernel_rfl, rfl⟩
    refine wpG_cons (gop (Instr.loadAt 9 (.pointer (some ⟨gr, 3, none⟩))) (.string F) GN.refl fun w_ hJ hd => ?_) ?_
    · have e11 : vals 11 = _ := hd 11 (by decide) (by kernel_rfl)
      rw [e11]
      exact ⟨by kernel_rfl, by kernel_rfl, run_load1 (by kernel_rfl) (c7 (GN.heap hJ hr)).2.2.2.1.1, rfl⟩
    refine wpG_cons (gval (.pointer (some ⟨gr, 5, none⟩)) GN.refl fun w_ hJ hd => ?_) ?_
    · exact ⟨by kernel_rfl, by kernel_rfl, rfl⟩
    refine wpG_cons (gop (Instr.loadAt 4 (.pointer (some ⟨gr, 5, none⟩))) (.bool wd) GN.refl fun w_ hJ hd => ?_) ?_
    · have e13 : vals 13 = _ := hd 13 (by decide) (by kernel_rfl)
      rw [e13]
      exact ⟨by kernel_rfl, by kernel_rfl, run_load1 (by kernel_rfl) (c7 (GN.heap hJ hr)).2.2.2.2.2.1.1, rfl⟩
    refine wpG_cons (gval (.int .u32 (b : Int)) GN.refl fun w_ hJ hd => ?_) ?_
    · exact ⟨by kernel_rfl, by kernel_rfl, rfl⟩
    refine wpG_cons (gcall 45 #[.string F, .bool wd, .int .u32 (b : Int)] fun w_ hJ hd => ?_) ?_
    · have e12 : vals 12 = _ := hd 12 (by decide) (by kernel_rfl)
      have e14 : vals 14 = _ := hd 14 (by decide) (by kernel_rfl)
      have e15 : vals 15 = _ := hd 15 (by decide) (by kernel_rfl)
      rw [e12, e14, e15]
      exact ⟨by kernel_rfl, by kernel_rfl, (imm_any F hF wd b hb w_).mono fun e w2 ⟨he, hg⟩ => ⟨_, he, hJ.trans hg, hg, rfl⟩⟩
    refine wpG_cons (gval (.agg #[.int .i64 kd, .int .i64 0, .int .i64 0, .int .i64 0, .int .i64 0, .int .i64 0, .int .i64 0, .int .i64 sz, .int .i64 (immF F b), .bool (hasF F 61), .bool us, .bool wd]) GN.refl fun w_ hJ hd => ?_) ?_
    · have e1 : vals 1 = _ := hd 1 (by decide) (by kernel_rfl)
      have e3 : vals 3 = _ := hd 3 (by decide) (by kernel_rfl)
      have e5 : vals 5 = _ := hd 5 (by decide) (by kernel_rfl)
      have e7 : vals 7 = _ := hd 7 (by decide) (by kernel_rfl)
      have e10 : vals 10 = _ := hd 10 (by decide) (by kernel_rfl)
      have e16 : vals 16 = _ := hd 16 (by decide) (by kernel_rfl)
      rw [e1, e3, e5, e7, e10, e16]
      exact ⟨by kernel_rfl, by kernel_rfl, rfl⟩
    refine wpG_cons (gmake fun w_ hJ hd => ?_) wpG_nil
    · exact ⟨by kernel_rfl, _, w_.alloc (.cells #[.int .i64 0, .int .i64 0, .int .i64 0, .int .i64 0, .int .i64 0, .int .i64 0, .int .i64 0, .int .i64 0, .int .i64 0, .bool false, .bool false, .bool false] 25), (by kernel_rfl : _ = Result.ok (Next.value (.pointer (some ⟨w_.heap.size, 0, none⟩))) _), hJ.alloc _, (GN.refl w_).alloc _, _, rfl, hJ.size, heap_alloc_last w_ _⟩
  intro vals w_ hJ hf
  have e0 : vals 0 = _ := hf 0 (by decide)
  have e1 : vals 1 = _ := hf 1 (by decide)
  have e2 : vals 2 = _ := hf 2 (by decide)
  have e3 : vals 3 = _ := hf 3 (by decide)
  have e4 : vals 4 = _ := hf 4 (by decide)
  have e5 : vals 5 = _ := hf 5 (by decide)
  have e6 : vals 6 = _ := hf 6 (by decide)
  have e7 : vals 7 = _ := hf 7 (by decide)
  have e8 : vals 8 = _ := hf 8 (by decide)
  have e9 : vals 9 = _ := hf 9 (by decide)
  have e10 : vals 10 = _ := hf 10 (by decide)
  have e11 : vals 11 = _ := hf 11 (by decide)
  have e12 : vals 12 = _ := hf 12 (by decide)
  have e13 : vals 13 = _ := hf 13 (by decide)
  have e14 : vals 14 = _ := hf 14 (by decide)
  have e15 : vals 15 = _ := hf 15 (by decide)
  have e16 : vals 16 = _ := hf 16 (by decide)
  have e17 : vals 17 = _ := hf 17 (by decide)
  have e18 : ∃ g, (vals 18) = .pointer (some ⟨g, 0, none⟩) ∧ W.heap.size ≤ g ∧ w_.heap[g]? = some (.cells #[.int .i64 0, .int .i64 0, .int .i64 0, .int .i64 0, .int .i64 0, .int .i64 0, .int .i64 0, .int .i64 0, .int .i64 0, .bool false, .bool false, .bool false] 25 (0, 0)) := hf 18 (by decide)
  show Oper.wp _ (Oper.mk _ _ _ _ _ _) (fillG vals 0 (_ :: _ :: _ :: _ :: _ :: _ :: _ :: _ :: _ :: _ :: _ :: _ :: _ :: _ :: _ :: _ :: _ :: _ :: _ :: []) _) _ _ _
  simp only [fillG, Nat.zero_add, Nat.reduceAdd, e0, e1, e2, e3, e4, e5, e6, e7, e8, e9, e10, e11, e12, e13, e14, e15, e16, e17, Act.put, List.setIfInBounds_toArray, List.set_cons_succ, List.set_cons_zero]
  clear e0 e1 e2 e3 e4 e5 e6 e7 e8 e9 e10 e11 e12 e13 e14 e15 e16 e17 hf
  generalize vals 18 = v18 at *
  obtain ⟨g, rfl, hge, hg5⟩ := e18
  rw [unhide HSZ] at hge
  have hgw : w.heap.size ≤ g := by rw [unhide HWS]; omega
  have hg4 : g4 ≠ g := by rw [unhide H4]; omega
  have hgr : gr ≠ g := by omega
  have hgw4 : w.heap.size ≤ g4 := by rw [unhide HWS, unhide H4]; omega
  have HG := hide (And.intro hgw (And.intro hg4 hgr))
  have HG4 := hide hgw4
  clear hgw4
  refine wp_store_row 25 (.tmp 5) (.tmp 23) rfl g _ rfl rfl 25 _ hg5 (by kernel_rfl) rfl (by kernel_rfl) ?_
  have h2 := row_self (cs := #[.int .i64 kd, .int .i64 0, .int .i64 0, .int .i64 0, .int .i64 0, .int .i64 0, .int .i64 0, .int .i64 sz, .int .i64 (immF F b), .bool (hasF F 61), .bool us, .bool wd]) hg5
  have h3 := row_ne (cs := #[.int .i64 kd, .int .i64 0, .int .i64 0, .int .i64 0, .int .i64 0, .int .i64 0, .int .i64 0, .int .i64 sz, .int .i64 (immF F b), .bool (hasF F 61), .bool us, .bool wd]) hg4 (GN.heap hJ hz)
  have h4 := row_ne (cs := #[.int .i64 kd, .int .i64 0, .int .i64 0, .int .i64 0, .int .i64 0, .int .i64 0, .int .i64 0, .int .i64 sz, .int .i64 (immF F b), .bool (hasF F 61), .bool us, .bool wd]) hgr (GN.heap hJ hr)
  have h1 := GN.setRow (cs := #[.int .i64 kd, .int .i64 0, .int .i64 0, .int .i64 0, .int .i64 0, .int .i64 0, .int .i64 0, .int .i64 sz, .int .i64 (immF F b), .bool (hasF F 61), .bool us, .bool wd]) (hW.trans hJ) hgw
  generalize w_.setRow g _ = w1 at *
  clear hgw hg4 hgr hg5 hge hJ hW hr hz HSZ H4
  have c3 := (c7 h4).2.2.2.1
  have HR1 := hide h1
  have HR2 := hide h2
  have HR3 := hide h3
  have HR4 := hide h4
  clear h1 h2 h3 h4
  obtain ⟨c3, f3⟩ := c3
  go_wp2_with fail
  refine (has_q F hF 100 q1 (unhide HQ1) _).mono ?_
  rintro r w5 ⟨rfl, rfl⟩
  clear c3 f3
  go_upto_if 26 with fail
  go_cut [] from 27 to 31 (fun wx => GN w wx ∧ wx.heap[g]? = some (.cells #[.int .i64 kd, .int .i64 (opt q1 (fd b 7 5)), .int .i64 0, .int .i64 0, .int .i64 0, .int .i64 0, .int .i64 0, .int .i64 sz, .int .i64 (immF F b), .bool (hasF F 61), .bool us, .bool wd] 25 (0, 0)) ∧ wx.heap[g4]? = some (.cells #[.int .i64 0, .int .i64 0, .int .i64 0, .int .i64 0, .int .i64 0, .int .i64 0, .int .i64 0, .int .i64 0, .int .i64 0, .bool false, .bool false, .bool false] 25 (0, 0)) ∧ wx.heap[gr]? = some (.cells #[.int .u32 mk, .int .u32 bt, .int .i64 kd, .string F, .int .i64 sz, .bool wd, .bool us] 49 (0, 0)))
  case first =>
    cases q1 with
    | true =>
    have e7 : bits .and .u32 ((b : Int) / 128) 31 = ((fd b 7 5 : Nat) : Int) := by
      rw [show (31 : Int) = ((31 : Nat) : Int) from rfl, show (b : Int) / 128 = ((b / 128 : Nat) : Int) by omega, ← and32_cast, show (31 : Nat) = (2 ^ 5 - 1) % 4294967296 by decide, and_mask32 _ _ (by decide)]
      rfl
    have l7 : fd b 7 5 < 32 := fd_lt b 7 5
    obtain ⟨⟨p0, r0⟩, ⟨p1, r1⟩, ⟨p2, r2⟩, ⟨p3, r3⟩, ⟨p4, r4⟩, ⟨p5, r5⟩, ⟨p6, r6⟩, ⟨p7, r7⟩, ⟨p8, r8⟩, ⟨p9, r9⟩, ⟨p10, r10⟩, ⟨p11, r11⟩⟩ := c12 (unhide HR2)
    go_wp2
    go_meet
    exact ⟨GN.set (unhide HR1) (unhide HG).1 _ _, heap_set' (unhide HR2) 1 _, hp_set (unhide HG).2.1 (unhide HR3), hp_set (unhide HG).2.2 (unhide HR4)⟩
    | false =>
    go_wp2
    go_meet
    exact ⟨unhide HR1, unhide HR2, unhide HR3, unhide HR4⟩
  case rest =>
  clear HR1 HR2 HR3 HR4
  obtain ⟨h1, h2, h3, h4⟩ := hcut
  have c3 := (c7 h4).2.2.2.1
  have HR1 := hide h1
  have HR2 := hide h2
  have HR3 := hide h3
  have HR4 := hide h4
  clear h1 h2 h3 h4
  obtain ⟨c3, f3⟩ := c3
  go_wp2_with fail
  refine (has_q F hF 49 q2 (unhide HQ2) _).mono ?_
  rintro r w5 ⟨rfl, rfl⟩
  clear c3 f3
  go_upto_if 34 with fail
  go_cut [] from 35 to 39 (fun wx => GN w wx ∧ wx.heap[g]? = some (.cells #[.int .i64 kd, .int .i64 (opt q1 (fd b 7 5)), .int .i64 (opt q2 (fd b 15 5)), .int .i64 0, .int .i64 0, .int .i64 0, .int .i64 0, .int .i64 sz, .int .i64 (immF F b), .bool (hasF F 61), .bool us, .bool wd] 25 (0, 0)) ∧ wx.heap[g4]? = some (.cells #[.int .i64 0, .int .i64 0, .int .i64 0, .int .i64 0, .int .i64 0, .int .i64 0, .int .i64 0, .int .i64 0, .int .i64 0, .bool false, .bool false, .bool false] 25 (0, 0)) ∧ wx.heap[gr]? = some (.cells #[.int .u32 mk, .int .u32 bt, .int .i64 kd, .string F, .int .i64 sz, .bool wd, .bool us] 49 (0, 0)))
  case first =>
    cases q2 with
    | true =>
    have e7 : bits .and .u32 ((b : Int) / 32768) 31 = ((fd b 15 5 : Nat) : Int) := by
      rw [show (31 : Int) = ((31 : Nat) : Int) from rfl, show (b : Int) / 32768 = ((b / 32768 : Nat) : Int) by omega, ← and32_cast, show (31 : Nat) = (2 ^ 5 - 1) % 4294967296 by decide, and_mask32 _ _ (by decide)]
      rfl
    have l7 : fd b 15 5 < 32 := fd_lt b 15 5
    obtain ⟨⟨p0, r0⟩, ⟨p1, r1⟩, ⟨p2, r2⟩, ⟨p3, r3⟩, ⟨p4, r4⟩, ⟨p5, r5⟩, ⟨p6, r6⟩, ⟨p7, r7⟩, ⟨p8, r8⟩, ⟨p9, r9⟩, ⟨p10, r10⟩, ⟨p11, r11⟩⟩ := c12 (unhide HR2)
    go_wp2
    go_meet
    exact ⟨GN.set (unhide HR1) (unhide HG).1 _ _, heap_set' (unhide HR2) 2 _, hp_set (unhide HG).2.1 (unhide HR3), hp_set (unhide HG).2.2 (unhide HR4)⟩
    | false =>
    go_wp2
    go_meet
    exact ⟨unhide HR1, unhide HR2, unhide HR3, unhide HR4⟩
  case rest =>
  clear HR1 HR2 HR3 HR4
  obtain ⟨h1, h2, h3, h4⟩ := hcut
  have c3 := (c7 h4).2.2.2.1
  have HR1 := hide h1
  have HR2 := hide h2
  have HR3 := hide h3
  have HR4 := hide h4
  clear h1 h2 h3 h4
  obtain ⟨c3, f3⟩ := c3
  go_wp2_with fail
  refine (has_q F hF 50 q3 (unhide HQ3) _).mono ?_
  rintro r w5 ⟨rfl, rfl⟩
  clear c3 f3
  go_upto_if 42 with fail
  go_cut [] from 43 to 47 (fun wx => GN w wx ∧ wx.heap[g]? = some (.cells #[.int .i64 kd, .int .i64 (opt q1 (fd b 7 5)), .int .i64 (opt q2 (fd b 15 5)), .int .i64 (opt q3 (fd b 20 5)), .int .i64 0, .int .i64 0, .int .i64 0, .int .i64 sz, .int .i64 (immF F b), .bool (hasF F 61), .bool us, .bool wd] 25 (0, 0)) ∧ wx.heap[g4]? = some (.cells #[.int .i64 0, .int .i64 0, .int .i64 0, .int .i64 0, .int .i64 0, .int .i64 0, .int .i64 0, .int .i64 0, .int .i64 0, .bool false, .bool false, .bool false] 25 (0, 0)) ∧ wx.heap[gr]? = some (.cells #[.int .u32 mk, .int .u32 bt, .int .i64 kd, .string F, .int .i64 sz, .bool wd, .bool us] 49 (0, 0)))
  case first =>
    cases q3 with
    | true =>
    have e7 : bits .and .u32 ((b : Int) / 1048576) 31 = ((fd b 20 5 : Nat) : Int) := by
      rw [show (31 : Int) = ((31 : Nat) : Int) from rfl, show (b : Int) / 1048576 = ((b / 1048576 : Nat) : Int) by omega, ← and32_cast, show (31 : Nat) = (2 ^ 5 - 1) % 4294967296 by decide, and_mask32 _ _ (by decide)]
      rfl
    have l7 : fd b 20 5 < 32 := fd_lt b 20 5
    obtain ⟨⟨p0, r0⟩, ⟨p1, r1⟩, ⟨p2, r2⟩, ⟨p3, r3⟩, ⟨p4, r4⟩, ⟨p5, r5⟩, ⟨p6, r6⟩, ⟨p7, r7⟩, ⟨p8, r8⟩, ⟨p9, r9⟩, ⟨p10, r10⟩, ⟨p11, r11⟩⟩ := c12 (unhide HR2)
    go_wp2
    go_meet
    exact ⟨GN.set (unhide HR1) (unhide HG).1 _ _, heap_set' (unhide HR2) 3 _, hp_set (unhide HG).2.1 (unhide HR3), hp_set (unhide HG).2.2 (unhide HR4)⟩
    | false =>
    go_wp2
    go_meet
    exact ⟨unhide HR1, unhide HR2, unhide HR3, unhide HR4⟩
  case rest =>
  clear HR1 HR2 HR3 HR4
  obtain ⟨h1, h2, h3, h4⟩ := hcut
  have c3 := (c7 h4).2.2.2.1
  have HR1 := hide h1
  have HR2 := hide h2
  have HR3 := hide h3
  have HR4 := hide h4
  clear h1 h2 h3 h4
  obtain ⟨c3, f3⟩ := c3
  go_wp2_with fail
  refine (has_q F hF 51 q4 (unhide HQ4) _).mono ?_
  rintro r w5 ⟨rfl, rfl⟩
  clear c3 f3
  go_upto_if 50 with fail
  go_cut [] from 51 to 54 (fun wx => GN w wx ∧ wx.heap[g]? = some (.cells #[.int .i64 kd, .int .i64 (opt q1 (fd b 7 5)), .int .i64 (opt q2 (fd b 15 5)), .int .i64 (opt q3 (fd b 20 5)), .int .i64 (opt q4 (fd b 27 5)), .int .i64 0, .int .i64 0, .int .i64 sz, .int .i64 (immF F b), .bool (hasF F 61), .bool us, .bool wd] 25 (0, 0)) ∧ wx.heap[g4]? = some (.cells #[.int .i64 0, .int .i64 0, .int .i64 0, .int .i64 0, .int .i64 0, .int .i64 0, .int .i64 0, .int .i64 0, .int .i64 0, .bool false, .bool false, .bool false] 25 (0, 0)) ∧ wx.heap[gr]? = some (.cells #[.int .u32 mk, .int .u32 bt, .int .i64 kd, .string F, .int .i64 sz, .bool wd, .bool us] 49 (0, 0)))
  case first =>
    cases q4 with
    | true =>
    have e7 : (b : Int) / 134217728 = ((fd b 27 5 : Nat) : Int) := by unfold fd; omega
    have l7 : fd b 27 5 < 32 := fd_lt b 27 5
    obtain ⟨⟨p0, r0⟩, ⟨p1, r1⟩, ⟨p2, r2⟩, ⟨p3, r3⟩, ⟨p4, r4⟩, ⟨p5, r5⟩, ⟨p6, r6⟩, ⟨p7, r7⟩, ⟨p8, r8⟩, ⟨p9, r9⟩, ⟨p10, r10⟩, ⟨p11, r11⟩⟩ := c12 (unhide HR2)
    go_wp2
    go_meet
    exact ⟨GN.set (unhide HR1) (unhide HG).1 _ _, heap_set' (unhide HR2) 4 _, hp_set (unhide HG).2.1 (unhide HR3), hp_set (unhide HG).2.2 (unhide HR4)⟩
    | false =>
    go_wp2
    go_meet
    exact ⟨unhide HR1, unhide HR2, unhide HR3, unhide HR4⟩
  case rest =>
  clear HR1 HR2 HR3 HR4
  obtain ⟨h1, h2, h3, h4⟩ := hcut
  have c3 := (c7 h4).2.2.2.1
  have HR1 := hide h1
  have HR2 := hide h2
  have HR3 := hide h3
  have HR4 := hide h4
  clear h1 h2 h3 h4
  obtain ⟨c3, f3⟩ := c3
  go_wp2_with fail
  refine (has_q F hF 114 q5 (unhide HQ5) _).mono ?_
  rintro r w5 ⟨rfl, rfl⟩
  clear c3 f3
  go_upto_if 57 with fail
  go_cut [] from 58 to 62 (fun wx => GN w wx ∧ wx.heap[g]? = some (.cells #[.int .i64 kd, .int .i64 (opt q1 (fd b 7 5)), .int .i64 (opt q2 (fd b 15 5)), .int .i64 (opt q3 (fd b 20 5)), .int .i64 (opt q4 (fd b 27 5)), .int .i64 (opt q5 (fd b 12 3)), .int .i64 0, .int .i64 sz, .int .i64 (immF F b), .bool (hasF F 61), .bool us, .bool wd] 25 (0, 0)) ∧ wx.heap[g4]? = some (.cells #[.int .i64 0, .int .i64 0, .int .i64 0, .int .i64 0, .int .i64 0, .int .i64 0, .int .i64 0, .int .i64 0, .int .i64 0, .bool false, .bool false, .bool false] 25 (0, 0)) ∧ wx.heap[gr]? = some (.cells #[.int .u32 mk, .int .u32 bt, .int .i64 kd, .string F, .int .i64 sz, .bool wd, .bool us] 49 (0, 0)))
  case first =>
    cases q5 with
    | true =>
    have e7 : bits .and .u32 ((b : Int) / 4096) 7 = ((fd b 12 3 : Nat) : Int) := by
      rw [show (7 : Int) = ((7 : Nat) : Int) from rfl, show (b : Int) / 4096 = ((b / 4096 : Nat) : Int) by omega, ← and32_cast, show (7 : Nat) = (2 ^ 3 - 1) % 4294967296 by decide, and_mask32 _ _ (by decide)]
      rfl
    have l7 : fd b 12 3 < 8 := fd_lt b 12 3
    obtain ⟨⟨p0, r0⟩, ⟨p1, r1⟩, ⟨p2, r2⟩, ⟨p3, r3⟩, ⟨p4, r4⟩, ⟨p5, r5⟩, ⟨p6, r6⟩, ⟨p7, r7⟩, ⟨p8, r8⟩, ⟨p9, r9⟩, ⟨p10, r10⟩, ⟨p11, r11⟩⟩ := c12 (unhide HR2)
    go_wp2
    go_meet
    exact ⟨GN.set (unhide HR1) (unhide HG).1 _ _, heap_set' (unhide HR2) 5 _, hp_set (unhide HG).2.1 (unhide HR3), hp_set (unhide HG).2.2 (unhide HR4)⟩
    | false =>
    go_wp2
    go_meet
    exact ⟨unhide HR1, unhide HR2, unhide HR3, unhide HR4⟩
  case rest =>
  clear HR1 HR2 HR3 HR4
  obtain ⟨h1, h2, h3, h4⟩ := hcut
  have c3 := (c7 h4).2.2.2.1
  have HR1 := hide h1
  have HR2 := hide h2
  have HR3 := hide h3
  have HR4 := hide h4
  clear h1 h2 h3 h4
  obtain ⟨c3, f3⟩ := c3
  go_wp2_with fail
  refine (has_q F hF 99 q6 (unhide HQ6) _).mono ?_
  rintro r w5 ⟨rfl, rfl⟩
  clear c3 f3
  go_upto_if 65 with fail
  go_cut [] from 66 to 69 (fun wx => GN w wx ∧ wx.heap[g]? = some (.cells #[.int .i64 kd, .int .i64 (opt q1 (fd b 7 5)), .int .i64 (opt q2 (fd b 15 5)), .int .i64 (opt q3 (fd b 20 5)), .int .i64 (opt q4 (fd b 27 5)), .int .i64 (opt q5 (fd b 12 3)), .int .i64 (opt q6 (fd b 20 12)), .int .i64 sz, .int .i64 (immF F b), .bool (hasF F 61), .bool us, .bool wd] 25 (0, 0)) ∧ wx.heap[g4]? = some (.cells #[.int .i64 0, .int .i64 0, .int .i64 0, .int .i64 0, .int .i64 0, .int .i64 0, .int .i64 0, .int .i64 0, .int .i64 0, .bool false, .bool false, .bool false] 25 (0, 0)) ∧ wx.heap[gr]? = some (.cells #[.int .u32 mk, .int .u32 bt, .int .i64 kd, .string F, .int .i64 sz, .bool wd, .bool us] 49 (0, 0)))
  case first =>
    cases q6 with
    | true =>
    have e7 : (b : Int) / 1048576 = ((fd b 20 12 : Nat) : Int) := by unfold fd; omega
    have l7 : fd b 20 12 < 4096 := fd_lt b 20 12
    obtain ⟨⟨p0, r0⟩, ⟨p1, r1⟩, ⟨p2, r2⟩, ⟨p3, r3⟩, ⟨p4, r4⟩, ⟨p5, r5⟩, ⟨p6, r6⟩, ⟨p7, r7⟩, ⟨p8, r8⟩, ⟨p9, r9⟩, ⟨p10, r10⟩, ⟨p11, r11⟩⟩ := c12 (unhide HR2)
    go_wp2
    go_meet
    exact ⟨GN.set (unhide HR1) (unhide HG).1 _ _, heap_set' (unhide HR2) 6 _, hp_set (unhide HG).2.1 (unhide HR3), hp_set (unhide HG).2.2 (unhide HR4)⟩
    | false =>
    go_wp2
    go_meet
    exact ⟨unhide HR1, unhide HR2, unhide HR3, unhide HR4⟩
  case rest =>
  clear HR1 HR2 HR3 HR4
  obtain ⟨h1, h2, h3, h4⟩ := hcut

  obtain ⟨⟨p0, r0⟩, ⟨p1, r1⟩, ⟨p2, r2⟩, ⟨p3, r3⟩, ⟨p4, r4⟩, ⟨p5, r5⟩, ⟨p6, r6⟩, ⟨p7, r7⟩, ⟨p8, r8⟩, ⟨p9, r9⟩, ⟨p10, r10⟩, ⟨p11, r11⟩⟩ := c12 h2
  obtain ⟨⟨s0, t0⟩, ⟨s1, t1⟩, ⟨s2, t2⟩, ⟨s3, t3⟩, ⟨s4, t4⟩, ⟨s5, t5⟩, ⟨s6, t6⟩, ⟨s7, t7⟩, ⟨s8, t8⟩, ⟨s9, t9⟩, ⟨s10, t10⟩, ⟨s11, t11⟩⟩ := c12 h3
  have HR := hide (And.intro h1 (And.intro h2 (And.intro h3 h4)))
  clear h1 h2 h3 h4
  have hne := (unhide HG).2.1
  have hne' := hne.symm
  go_wp2
  obtain ⟨h1, h2, h3, h4⟩ := unhide HR
  have hgw4 := unhide HG4
  refine fin25 4 rfl rfl rfl ⟨_, hpt, rfl, ?_, ?_⟩
  · rw [← unhide HQ1, ← unhide HQ2, ← unhide HQ3, ← unhide HQ4, ← unhide HQ5, ← unhide HQ6]
    rfl
  · exact gnt
end Go.Proofs.Ytopbdiekfhikmaa
namespace Go.Proofs.Ytopbdiekfhikmaa
open Go.RowKit
theorem rowsC_at : ∀ (l : List RowS) (k : Nat) (r : RowS), l[k]? = some r → ∀ j v, r.cs[j]? = some v → (rowsC l)[k * 7 + j]? = some v := by
  intro l
  induction l with
  | nil => intro k r h; cases h
  | cons a l ih =>
    intro k r h j v hv
    have e : rowsC (a :: l) = a.cs ++ rowsC l := rfl
    have ha : a.cs.length = 7 := rfl
    cases k with
    | zero =>
      obtain rfl : a = r := by simpa using h
      have hj := (List.getElem?_eq_some_iff.1 hv).1
      rw [e, Nat.zero_mul, Nat.zero_add, List.getElem?_append_left hj]
      exact hv
    | succ k =>
      rw [e, List.getElem?_append_right (by omega), ha, show (k + 1) * 7 + j - 7 = k * 7 + j by omega]
      exact ih k r (by simpa using h) j v hv
theorem row_at {w0 w : World} {L : List HP} {g o cap k n : Nat} {r : RowS} {l : List RowS} (h : Heap w0 w (HP.slw (.slice (some ⟨g, o, none⟩) n cap) 7 n (rowsC l) :: L)) (hk : l[k]? = some r) : ∀ j v, r.cs[j]? = some v → w.cell? ⟨g, o + k * 7 + j, none⟩ = some v := by
  intro j v hv
  have h2 := h.slw.cells_at rfl _ _ (rowsC_at l k r hk j v hv)
  rwa [Addr.add_mid, ← Nat.add_assoc] at h2
theorem ixo_at {P : Program} (t e : TypeId) (sz : Nat) (ht : P.underlying t = some (.slice e)) (hs : (P.info? e).map (·.size) = some sz) (g o n c k : Nat) (h : k < n) (w : World) :
    (Instr.indexAt t (.slice (some ⟨g, o, none⟩) n c) (.int .i64 (k : Int))).run P w = .ok (.pointer (some ⟨g, o + k * sz, none⟩)) w := by
  have he : P.elem t = e := by simp [Program.elem, ht]
  rw [run_indexAt_slice w t ⟨g, o, none⟩ n c .i64 k (by rw [ht, he])]
  cases hi : P.info? e with
  | none => rw [hi] at hs; cases hs
  | some i =>
    rw [hi] at hs
    have hs : i.size = sz := by simpa using hs
    simp [he, sizeOf, typeInfo, hi, hs, h, Addr.add_mid]
theorem find_at {α : Type} {p : α → Bool} : ∀ {l : List α} {k : Nat} {r : α}, l[k]? = some r → p r = true → (∀ j x, j < k → l[j]? = some x → p x = false) → l.find? p = some r := by
  intro l
  induction l with
  | nil => intro k r h; cases h
  | cons a l ih =>
    intro k r h hp hno
    cases k with
    | zero =>
      obtain rfl : a = r := by simpa using h
      rw [List.find?_cons, hp]
    | succ k =>
      rw [List.find?_cons, hno 0 a (by omega) rfl]
      exact ih (by simpa using h) hp fun j x hj hx => hno (j + 1) x (by omega) (by simpa using hx)
theorem rows_in : rowsL.all (fun r => decide (0 ≤ r.mask) && decide (r.mask < 4294967296) && decide (r.form.size ≤ 1000)) = true := by decide +kernel
set_option maxRecDepth 1000000 in
set_option maxHeartbeats 8000000 in
theorem rdecode_any (b : Nat) (hb : b < 4294967296) (w : World) : Calls Try.prog 11 #[.int .u32 (b : Int)] w fun r w' => r = .returned (insV (refN b)) ∧ GN w w' := by
  have H := hide ((Heap.nil w).new #[.int .i64 0, .int .i64 0, .int .i64 0, .int .i64 0, .int .i64 0, .int .i64 0, .int .i64 0, .int .i64 0, .int .i64 0, .bool false, .bool false, .bool false] 25)
  go_enter Try.func11, Try.ntmps11
  go_wp2_with fail
  obtain ⟨g2, hg2⟩ : ∃ z, w.heap.size = z := ⟨_, rfl⟩
  rw [hg2] at H ⊢
  have HG2 := hide hg2
  clear hg2
  refine (rows_any (unhide H)).mono ?_
  rintro r w1 ⟨A, cap, rfl, h1⟩
  obtain ⟨g, o, cap', e, _⟩ := h1.slw.cell (j := 0) (by decide)
  injection e with e1 e2 e3
  subst e1 e3
  have H1 := hide h1
  clear h1 H e2
  go_wp2
  go_loopw [4] (fun i wr => ∃ k : Nat, i = .int .i64 k ∧ k ≤ 160 ∧ (∀ j x, j < k → rowsL[j]? = some x → matchB x b = false) ∧ Heap w wr [HP.slw (.slice (some ⟨g, o, none⟩) 160 cap) 7 160 (rowsC rowsL), HP.blk g2 #[.int .i64 0, .int .i64 0, .int .i64 0, .int .i64 0, .int .i64 0, .int .i64 0, .int .i64 0, .int .i64 0, .int .i64 0, .bool false, .bool false, .bool false] 25]) (fun i _ => 160 - (intOf i).toNat)
  case atStart => exact ⟨0, rfl, by omega, fun j x h => by omega, unhide H1⟩
  case round =>
    clear H1
    obtain ⟨k, rfl, hk, hno, hJ⟩ := hrel
    have HN := hide hno
    have HJ := hide hJ
    clear hno hJ
    by_cases hlt : k < 160
    · obtain ⟨r, hr⟩ : ∃ r, rowsL[k]? = some r := ⟨_, List.getElem?_eq_getElem (by rw [show rowsL.length = 160 from rfl]; exact hlt)⟩
      have hin := List.all_eq_true.1 rows_in r (List.mem_of_getElem? hr)
      obtain ⟨q, hq⟩ : ∃ q, matchB r b = q := ⟨_, rfl⟩
      obtain ⟨mk, bt, kd, F, sz, wd, us⟩ := r
      simp only [Bool.and_eq_true, decide_eq_true_eq] at hin
      obtain ⟨⟨m0, m1⟩, hF⟩ := hin
      have F1 := hide (show ∀ w, (binOp .and 22 (.int .u32 (b : Int)) (.int .u32 mk)).run Try.prog w = .ok (.int .u32 ((and32 b mk.toNat : Nat) : Int)) w by
        intro w
        rw [and32_cast, show ((mk.toNat : Nat) : Int) = mk by omega]
        rfl)
      have F2 := hide (show ∀ w, (binOp .neq 22 (.int .u32 ((and32 b mk.toNat : Nat) : Int)) (.int .u32 bt)).run Try.prog w = .ok (.bool (!q)) w by
        intro w
        rw [← hq]
        unfold matchB
        exact (rfl : _ = Result.ok (Value.bool (((and32 b mk.toNat : Nat) : Int) != bt)) w))
      have FA := hide (fun w => ixo_at (P := Try.prog) 46 49 7 Try.underlying46 (by kernel_rfl) g o 160 cap k hlt w)
      have HK := hide hr
      have HQ := hide hq
      have HF := hide hF
      clear hr hq hF m0 m1
      go_wp2_with fail
      refine wp_region_F (fun w_ => Heap w w_ [HP.slw (.slice (some ⟨g, o, none⟩) 160 cap) 7 160 (rowsC rowsL), HP.blk g2 #[.int .i64 0, .int .i64 0, .int .i64 0, .int .i64 0, .int .i64 0, .int .i64 0, .int .i64 0, .int .i64 0, .int .i64 0, .bool false, .bool false, .bool false] 25]) (fun _ _ => True) (fun k_ v_ w_ => match k_ with
          | 0 => v_ = .int .u32 (b : Int)
          | 1 => v_ = .slice (some ⟨g, o, none⟩) 160 cap
          | 2 => v_ = .int .i64 (k : Int)
          | 3 => v_ = .pointer (some ⟨g, o + k * 7, none⟩)
          | 4 => v_ = .pointer (some ⟨g, o + k * 7 + 0, none⟩)
          | 5 => v_ = .int .u32 mk
          | 6 => v_ = .int .u32 ((and32 b mk.toNat : Nat) : Int)
          | 7 => v_ = .slice (some ⟨g, o, none⟩) 160 cap
          | 8 => v_ = .int .i64 (k : Int)
          | 9 => v_ = .pointer (some ⟨g, o + k * 7, none⟩)
          | 10 => v_ = .pointer (some ⟨g, o + k * 7 + 1, none⟩)
          | 11 => v_ = .int .u32 bt
          | _ => v_ = .bool (!q)) fol (by kernel_rfl) ?_ ?_ ?_ ?_
      · exact (unhide HJ).drew
      · intro k_ v_ w_ w2_ h1 hg
        split at h1 <;> exact h1
      · intro vals
        show wpG _ _ _ _ _ _ 0 (_ :: _) _
        refine wpG_cons (gval (.int .u32 (b : Int)) (fun _ => trivial) fun w_ hJ hd => ?_) ?_
        · exact ⟨by kernel_rfl, by kernel_rfl, rfl⟩
        refine wpG_cons (gval (.slice (some ⟨g, o, none⟩) 160 cap) (fun _ => trivial) fun w_ hJ hd => ?_) ?_
        · exact ⟨by kernel_rfl, by kernel_rfl, rfl⟩
        refine wpG_cons (gval (.int .i64 (k : Int)) (fun _ => trivial) fun w_ hJ hd => ?_) ?_
        · exact ⟨by kernel_rfl, by kernel_rfl, rfl⟩
        refine wpG_cons (gop (Instr.indexAt 46 (.slice (some ⟨g, o, none⟩) 160 cap) (.int .i64 (k : Int))) (.pointer (some ⟨g, o + k * 7, none⟩)) (fun _ => trivial) fun w_ hJ hd => ?_) ?_
        · have e1 : vals 1 = _ := hd 1 (by decide) (by kernel_rfl)
          have e2 : vals 2 = _ := hd 2 (by decide) (by kernel_rfl)
          rw [e1, e2]
          exact ⟨by kernel_rfl, by kernel_rfl, unhide FA w_, rfl⟩
        refine wpG_cons (gval (.pointer (some ⟨g, o + k * 7 + 0, none⟩)) (fun _ => trivial) fun w_ hJ hd => ?_) ?_
        · have e3 : vals 3 = _ := hd 3 (by decide) (by kernel_rfl)
          rw [e3]
          exact ⟨by kernel_rfl, by kernel_rfl, rfl⟩
        refine wpG_cons (gop (Instr.loadAt 22 (.pointer (some ⟨g, o + k * 7 + 0, none⟩))) (.int .u32 mk) (fun _ => trivial) fun w_ hJ hd => ?_) ?_
        · have e4 : vals 4 = _ := hd 4 (by decide) (by kernel_rfl)
          rw [e4]
          exact ⟨by kernel_rfl, by kernel_rfl, run_load1 (by kernel_rfl) (row_at hJ (unhide HK) 0 _ rfl), rfl⟩
        refine wpG_cons (gop (binOp .and 22 (.int .u32 (b : Int)) (.int .u32 mk)) (.int .u32 ((and32 b mk.toNat : Nat) : Int)) (fun _ => trivial) fun w_ hJ hd => ?_) ?_
        · have e0 : vals 0 = _ := hd 0 (by decide) (by kernel_rfl)
          have e5 : vals 5 = _ := hd 5 (by decide) (by kernel_rfl)
          rw [e0, e5]
          exact ⟨by kernel_rfl, by kernel_rfl, unhide F1 w_, rfl⟩
        refine wpG_cons (gval (.slice (some ⟨g, o, none⟩) 160 cap) (fun _ => trivial) fun w_ hJ hd => ?_) ?_
        · exact ⟨by kernel_rfl, by kernel_rfl, rfl⟩
        refine wpG_cons (gval (.int .i64 (k : Int)) (fun _ => trivial) fun w_ hJ hd => ?_) ?_
        · exact ⟨by kernel_rfl, by kernel_rfl, rfl⟩
        refine wpG_cons (gop (Instr.indexAt 46 (.slice (some ⟨g, o, none⟩) 160 cap) (.int .i64 (k : Int))) (.pointer (some ⟨g, o + k * 7, none⟩)) (fun _ => trivial) fun w_ hJ hd => ?_) ?_
        · have e7 : vals 7 = _ := hd 7 (by decide) (by kernel_rfl)
          have e8 : vals 8 = _ := hd 8 (by decide) (by kernel_rfl)
          rw [e7, e8]
          exact ⟨by kernel_rfl, by kernel_rfl, unhide FA w_, rfl⟩
        refine wpG_cons (gval (.pointer (some ⟨g, o + k * 7 + 1, none⟩)) (fun _ => trivial) fun w_ hJ hd => ?_) ?_
        · have e9 : vals 9 = _ := hd 9 (by decide) (by kernel_rfl)
          rw [e9]
          exact ⟨by kernel_rfl, by kernel_rfl, rfl⟩
        refine wpG_cons (gop (Instr.loadAt 22 (.pointer (some ⟨g, o + k * 7 + 1, none⟩))) (.int .u32 bt) (fun _ => trivial) fun w_ hJ hd => ?_) ?_
        · have e10 : vals 10 = _ := hd 10 (by decide) (by kernel_rfl)
          rw [e10]
          exact ⟨by kernel_rfl, by kernel_rfl, run_load1 (by kernel_rfl) (row_at hJ (unhide HK) 1 _ rfl), rfl⟩
        refine wpG_cons (gop (binOp .neq 22 (.int .u32 ((and32 b mk.toNat : Nat) : Int)) (.int .u32 bt)) (.bool (!q)) (fun _ => trivial) fun w_ hJ hd => ?_) wpG_nil
        · have e6 : vals 6 = _ := hd 6 (by decide) (by kernel_rfl)
          have e11 : vals 11 = _ := hd 11 (by decide) (by kernel_rfl)
          rw [e6, e11]
          exact ⟨by kernel_rfl, by kernel_rfl, unhide F2 w_, rfl⟩
      · intro vals w_ hJ hf
        have e0 : vals 0 = _ := hf 0 (by decide)
        have e1 : vals 1 = _ := hf 1 (by decide)
        have e2 : vals 2 = _ := hf 2 (by decide)
        have e3 : vals 3 = _ := hf 3 (by decide)
        have e4 : vals 4 = _ := hf 4 (by decide)
        have e5 : vals 5 = _ := hf 5 (by decide)
        have e6 : vals 6 = _ := hf 6 (by decide)
        have e7 : vals 7 = _ := hf 7 (by decide)
        have e8 : vals 8 = _ := hf 8 (by decide)
        have e9 : vals 9 = _ := hf 9 (by decide)
        have e10 : vals 10 = _ := hf 10 (by decide)
        have e11 : vals 11 = _ := hf 11 (by decide)
        have e12 : vals 12 = _ := hf 12 (by decide)
        simp only [fillG, Nat.zero_add, Nat.reduceAdd, e0, e1, e2, e3, e4, e5, e6, e7, e8, e9, e10, e11, e12, Act.put, List.setIfInBounds_toArray, List.set_cons_succ, List.set_cons_zero]
        clear e0 e1 e2 e3 e4 e5 e6 e7 e8 e9 e10 e11 e12 hf
        clear HJ
        have HJ := hide hJ
        clear hJ
        cases q with
        | false =>
          go_wp2
          refine ⟨⟨k + 1, by go_num, by omega, fun j x hj hx => ?_, unhide HJ⟩, by simp [intOf]; omega⟩
          by_cases hjk : j = k
          · subst hjk
            rw [unhide HK] at hx
            injection hx with hx
            rw [← hx]
            exact unhide HQ
          · exact unhide HN j x (by omega) hx
        | true =>
          have hrg : Go.World.rangeAt w_ g (o + k * 7) [.int .u32 mk, .int .u32 bt, .int .i64 kd, .string F, .int .i64 sz, .bool wd, .bool us] := fun j v hv => row_at (unhide HJ) (unhide HK) j v hv
          go_wp2_with (refine wpList_load_mid rfl 49 (.tmp 28) rfl g (o + k * 7) rfl [.int .u32 mk, .int .u32 bt, .int .i64 kd, .string F, .int .i64 sz, .bool wd, .bool us] _ hrg Try.underlying49 rfl (by kernel_rfl) ?_)
          clear hrg
          refine (read_w mk bt kd sz F wd us (unhide HF) b hb _).mono ?_
          rintro r w6 ⟨rfl, g6⟩
          have H6 := hide ((unhide HJ).grown g6)
          clear g6 HJ
          have HT := hide (show refN b = takeN ⟨mk, bt, kd, F, sz, wd, us⟩ b by unfold refN; rw [find_at (unhide HK) (unhide HQ) (unhide HN)])
          have HT2 := hide (show takeN ⟨mk, bt, kd, F, sz, wd, us⟩ b = if (readN ⟨mk, bt, kd, F, sz, wd, us⟩ b).rm = 5 ∨ (readN ⟨mk, bt, kd, F, sz, wd, us⟩ b).rm = 6 then zero else readN ⟨mk, bt, kd, F, sz, wd, us⟩ b from rfl)
          generalize readN ⟨mk, bt, kd, F, sz, wd, us⟩ b = X at *
          rw [show insV X = .agg #[.int .i64 X.kind, .int .i64 X.rd, .int .i64 X.rs1, .int .i64 X.rs2, .int .i64 X.rs3, .int .i64 X.rm, .int .i64 X.csr, .int .i64 X.size, .int .i64 X.imm, .bool X.ui, .bool X.us, .bool X.wd] from rfl]
          clear HF HQ HK HN
          have h6 := unhide H6
          have hgn : GN w w6 := ⟨h6.below.os, h6.below.tape, h6.below.output, h6.below.size, fun k hk _ => h6.below.block k hk⟩
          have hz := Heap.heap h6.f2
          have hlt2 := lt_of_heap' hz
          have hne2 : g2 ≠ w6.heap.size := by omega
          have hgw : w.heap.size ≤ g2 := by rw [unhide HG2]; exact Nat.le_refl _
          obtain ⟨⟨s0, t0⟩, ⟨s1, t1⟩, ⟨s2, t2⟩, ⟨s3, t3⟩, ⟨s4, t4⟩, ⟨s5, t5⟩, ⟨s6, t6⟩, ⟨s7, t7⟩, ⟨s8, t8⟩, ⟨s9, t9⟩, ⟨s10, t10⟩, ⟨s11, t11⟩⟩ := c12 hz
          clear h6 H6
          have hc : X.rm = 5 ∨ (X.rm ≠ 5 ∧ X.rm = 6) ∨ (X.rm ≠ 5 ∧ X.rm ≠ 6) := by omega
          rcases hc with h5 | ⟨h5, h6⟩ | ⟨h5, h6⟩
          · have HE := hide (show refN b = zero by rw [unhide HT, unhide HT2, if_pos (.inl h5)])
            have z5 : (X.rm == 5) = true := beq_iff_eq.2 h5
            clear h5
            go_wp2
            refine fin25 2 rfl rfl rfl ⟨_, hpt, rfl, ?_, ?_⟩
            · rw [unhide HE]; rfl
            · exact gnt
          · have HE := hide (show refN b = zero by rw [unhide HT, unhide HT2, if_pos (.inr h6)])
            have z5 : (X.rm == 5) = false := beq_eq_false_iff_ne.2 h5
            have z6 : (X.rm == 6) = true := beq_iff_eq.2 h6
            clear h5 h6
            go_wp2
            refine fin25 2 rfl rfl rfl ⟨_, hpt, rfl, ?_, ?_⟩
            · rw [unhide HE]; rfl
            · exact gnt
          · have HE := hide (show refN b = X by rw [unhide HT, unhide HT2, if_neg (by omega)])
            have z5 : (X.rm == 5) = false := beq_eq_false_iff_ne.2 h5
            have z6 : (X.rm == 6) = false := beq_eq_false_iff_ne.2 h6
            clear h5 h6
            go_wp2
            refine fin25 2 rfl rfl rfl ⟨_, hpt, rfl, ?_, ?_⟩
            · rw [unhide HE]; rfl
            · exact gnt
    · obtain rfl : k = 160 := by omega
      have HE := hide (show refN b = zero by
        unfold refN
        have : rowsL.find? (fun r => matchB r b) = none := List.find?_eq_none.2 fun x hx => by
          obtain ⟨j, hj⟩ := List.getElem?_of_mem hx
          have hjl := (List.getElem?_eq_some_iff.1 hj).1
          rw [show rowsL.length = 160 from rfl] at hjl
          rw [unhide HN j x hjl hj]
          exact Bool.false_ne_true
        rw [this])
      have h6 := unhide HJ
      have hgn : GN w wr := ⟨h6.below.os, h6.below.tape, h6.below.output, h6.below.size, fun k hk _ => h6.below.block k hk⟩
      have hz := Heap.heap h6.f2
      have hlt2 := lt_of_heap' hz
      have hgw : w.heap.size ≤ g2 := by rw [unhide HG2]; exact Nat.le_refl _
      obtain ⟨⟨s0, t0⟩, ⟨s1, t1⟩, ⟨s2, t2⟩, ⟨s3, t3⟩, ⟨s4, t4⟩, ⟨s5, t5⟩, ⟨s6, t6⟩, ⟨s7, t7⟩, ⟨s8, t8⟩, ⟨s9, t9⟩, ⟨s10, t10⟩, ⟨s11, t11⟩⟩ := c12 hz
      clear h6 HJ
      go_wp2
      refine fin25 2 rfl rfl rfl ⟨_, hpt, rfl, ?_, ?_⟩
      · rw [unhide HE]; rfl
      · exact gnt
end Go.Proofs.Ytopbdiekfhikmaa
