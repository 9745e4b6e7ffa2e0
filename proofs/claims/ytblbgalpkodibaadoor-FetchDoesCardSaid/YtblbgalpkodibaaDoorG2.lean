/- Layer 18: Next. -/
import Derived.Test.YtblbgalpkodibaaDoorG1
namespace Go.Proofs.YtblbgalpkodibaaDoor
open Go.RowKit

def behind (pc size : Int) : Int := if size = 2 then IntKind.u64.wrap (pc + 2) else IntKind.u64.wrap (pc + 4)
theorem wrap_bd (x : Int) : 0 ≤ IntKind.u64.wrap x ∧ IntKind.u64.wrap x < 18446744073709551616 := by rw [IntKind.wrap_u64]; omega
theorem behind_bd (pc size : Int) : 0 ≤ behind pc size ∧ behind pc size < 18446744073709551616 := by unfold behind; split <;> exact wrap_bd _
def rk (c : St) (pc : Int) : Int := if c (rowN pc * 3) = pc then c (rowN pc * 3 + 2) else 0
/-- What Next tells; what it leaves. -/
def nOut (c : St) (pc size : Int) : Int :=
  if rk c pc = 1 then (if 2 ≤ c (48 + ctrN pc (c 117)) then c (rowN pc * 3 + 1) else behind pc size)
  else if rk c pc = 2 ∨ rk c pc = 3 then c (rowN pc * 3 + 1)
  else if rk c pc = 4 then (if c 116 = 0 then c (rowN pc * 3 + 1) else c (112 + (c 116 - 1).toNat))
  else behind pc size
def shift (c : St) : St := upd (upd (upd c 112 (c 113)) 113 (c 114)) 114 (c 115)
def pushS (c : St) (v : Int) : St := if c 116 = 4 then upd (upd (upd (shift c) 116 3) 115 v) 116 4 else upd (upd c (112 + (c 116).toNat) v) 116 (c 116 + 1)
def popS (c : St) : St := if c 116 = 0 then c else upd (upd c 116 (c 116 - 1)) (112 + (c 116 - 1).toNat) 0
def nSt (c : St) (pc size : Int) : St := if rk c pc = 3 then pushS c (behind pc size) else if rk c pc = 4 then popS c else c
section
variable {w0 w : World} {L : List HP} {b : Nat} {c : St}
theorem run_ld {w : World} {b i : Nat} {c : St} (h : w.heap[b]? = some (.cells (gl c).toArray 78 (0, 0))) (hi : i < 118) {t : TypeId} {k : IntKind} (ht : (isAgg t).run Tryd.prog w = .ok false w) (hk : gk i = k) :
    (Instr.loadAt t (.pointer (some ⟨b, i, none⟩))).run Tryd.prog w = .ok (.int k (c i)) w := by
  subst hk
  exact run_load1 ht (gcell h hi).1
theorem run_ldv {w : World} {b i : Nat} {c : St} {x : Int} (h : w.heap[b]? = some (.cells (gl c).toArray 78 (0, 0))) (hi : i < 118) {t : TypeId} {k : IntKind} (ht : (isAgg t).run Tryd.prog w = .ok false w) (hk : gk i = k) (hx : c i = x) :
    (Instr.loadAt t (.pointer (some ⟨b, i, none⟩))).run Tryd.prog w = .ok (.int k x) w := by
  subst hx
  exact run_ld h hi ht hk
theorem run_gst {w : World} {b i : Nat} {c : St} (h : w.heap[b]? = some (.cells (gl c).toArray 78 (0, 0))) (hi : i < 118) {t : TypeId} {k : IntKind} {x : Int} (hz : (sizeOf t).run Tryd.prog w = .ok 1 w) :
    (Instr.storeAt t (.pointer (some ⟨b, i, none⟩)) (.int k x)).run Tryd.prog w = .ok () (w.setCell ⟨b, i, none⟩ (.int k x)) :=
  run_store1 hz rfl rfl (gcell h hi).1 (gcell h hi).2
theorem Heap.gset (h : Heap w0 w (HP.blk b (gl c).toArray 78 :: L)) (i : Nat) (x : Int) {k : IntKind} (hk : gk i = k) : Heap w0 (w.setCell ⟨b, i, none⟩ (.int k x)) (HP.blk b (gl (upd c i x)).toArray 78 :: L) := by
  subst hk
  rw [← gl_set]
  exact h.setl i _
set_option maxRecDepth 100000 in
set_option maxHeartbeats 2000000 in
theorem next_k (h : Heap w0 w (HP.blk b (gl c).toArray 78 :: L)) (hI : GI c) (pc size : Int) (p0 : 0 ≤ pc) (p1 : pc < 18446744073709551616) :
    Calls Tryd.prog 45 #[.pointer (some ⟨b, 0, none⟩), .int .u64 pc, .int .i64 size] w fun r w' => r = .returned (.int .u64 (nOut c pc size)) ∧ Heap w0 w' (HP.blk b (gl (nSt c pc size)).toArray 78 :: L) := by
  have hlt := lt_of_heap' h.heap
  have hr := rowN_lt pc
  obtain ⟨k0, k1, k2⟩ := gk_row hr
  have c0 := (gcell h.heap (i := rowN pc * 3) (by omega)).1
  have c1 := (gcell h.heap (i := rowN pc * 3 + 1) (by omega)).1
  have c2 := (gcell h.heap (i := rowN pc * 3 + 2) (by omega)).1
  rw [k0] at c0
  rw [k1] at c1
  rw [k2] at c2
  have hk := hI.kind _ hr
  have HI := hide hI
  go_enter Tryd.func45, Tryd.ntmps45
  go_upto_if 14 with fail
  go_cut [7] (fun s7 wx => s7 = .int .u64 (behind pc size) ∧ wx = w)
  case first =>
    by_cases q : size = 2
    · have z : (size == 2) = true := beq_iff_eq.2 q
      go_wp2
      go_meet
      exact ⟨by unfold behind; rw [if_pos q], rfl⟩
    · have z : (size == 2) = false := beq_eq_false_iff_ne.2 q
      go_wp2
      go_meet
      exact ⟨by unfold behind; rw [if_neg q], rfl⟩
  case rest =>
    obtain ⟨rfl, rfl⟩ := hcut
    go_wp2_with fail
    refine (row_any b pc p0 p1 _).mono ?_
    rintro r w1 ⟨rfl, rfl⟩
    by_cases hpc : c (rowN pc * 3) = pc
    · have hrk : rk c pc = c (rowN pc * 3 + 2) := by unfold rk; rw [if_pos hpc]
      rw [hpc] at c0
      have Hpc := hide hpc
      clear hpc
      generalize c (rowN pc * 3 + 2) = kd at *
      have Hrk := hide hrk
      clear hrk
      have hkd : kd = 0 ∨ kd = 1 ∨ kd = 2 ∨ kd = 3 ∨ kd = 4 := by omega
      rcases hkd with rfl | rfl | rfl | rfl | rfl
      · go_wp2
        go_ret
        exact ⟨by simp [nOut, unhide Hrk], by simp [nSt, unhide Hrk]; exact h⟩
      · go_wp2_with fail
        refine (ctr_any h.heap hI pc p0 p1).mono ?_
        rintro r w2 ⟨rfl, nd, rfl⟩
        have hc := ctrN_lt pc (c 117)
        have h2 := h.drewN nd
        have c3 := (gcell h2.heap (i := 48 + ctrN pc (c 117)) (by omega)).1
        rw [gk_ctr hc] at c3
        have hcv : c (48 + ctrN pc (c 117)) = c (48 + ctrN pc (c 117)) := rfl
        generalize hcv2 : c (48 + ctrN pc (c 117)) = cv at c3 hcv
        have Hcv := hide hcv2
        clear hcv hcv2
        by_cases q2 : 2 ≤ cv
        · have z : decide (2 ≤ cv) = true := decide_eq_true q2
          go_wp2
          go_ret
          exact ⟨by simp [nOut, unhide Hrk, unhide Hcv, q2], by simp [nSt, unhide Hrk]; exact h2⟩
        · have z : decide (2 ≤ cv) = false := decide_eq_false q2
          go_wp2
          go_ret
          exact ⟨by simp [nOut, unhide Hrk, unhide Hcv]; intro; omega, by simp [nSt, unhide Hrk]; exact h2⟩
      · go_wp2
        go_ret
        exact ⟨by simp [nOut, unhide Hrk], by simp [nSt, unhide Hrk]; exact h⟩
      · have hss : c 116 = 0 ∨ c 116 = 1 ∨ c 116 = 2 ∨ c 116 = 3 ∨ c 116 = 4 := by have := hI.size; omega
        rcases hss with hs | hs | hs | hs | hs
        · have Hsz : c 116 = 0 := hs
          have c6 := (gcell h.heap (i := 116) (by omega)).1
          rw [show gk 116 = .i64 from rfl, Hsz] at c6
          have Hsz := hide Hsz
          clear hs
          go_wp2_with fail
          refine wp_region_E (fun w_ => Heap w0 w_ (HP.blk b (gl (c)).toArray 78 :: L)) GN (fun k_ v_ w_ => match k_ with
              | 0 => v_ = .pointer (some ⟨b, 112, none⟩)
              | 1 => v_ = .pointer (some ⟨b, 112, none⟩)
              | 2 => v_ = .pointer (some ⟨b, 112, none⟩)
              | 3 => v_ = .pointer (some ⟨b, 116, none⟩)
              | 4 => v_ = .int .i64 0
              | 5 => v_ = .int .u64 (behind pc size)
              | 6 => v_ = .pointer (some ⟨b, 112, none⟩)
              | 7 => v_ = .pointer (some ⟨b, 112, none⟩)
              | _ => v_ = .pointer (some ⟨b, 112 + 0, none⟩)) fol (by kernel_rfl) ?_ ?_ (n := 9) rfl rfl rfl (by kernel_rfl) ?_ ?_
          · exact h.drew
          · intro k_ v_ w_ w2_ h1 hg
            split at h1 <;> exact h1
          · intro vals
            show wpG _ _ _ _ _ _ 0 (_ :: _) _
            refine wpG_cons (gval (.pointer (some ⟨b, 112, none⟩)) GN.refl fun w_ hJ hd => ?_) ?_
            · exact ⟨by kernel_rfl, by kernel_rfl, rfl⟩
            refine wpG_cons (gval (.pointer (some ⟨b, 112, none⟩)) GN.refl fun w_ hJ hd => ?_) ?_
            · exact ⟨by kernel_rfl, by kernel_rfl, rfl⟩
            refine wpG_cons (gval (.pointer (some ⟨b, 112, none⟩)) GN.refl fun w_ hJ hd => ?_) ?_
            · have e1 : vals 1 = _ := hd 1 (by decide) (by kernel_rfl)
              rw [e1]
              exact ⟨by kernel_rfl, by kernel_rfl, rfl⟩
            refine wpG_cons (gval (.pointer (some ⟨b, 116, none⟩)) GN.refl fun w_ hJ hd => ?_) ?_
            · have e2 : vals 2 = _ := hd 2 (by decide) (by kernel_rfl)
              rw [e2]
              exact ⟨by kernel_rfl, by kernel_rfl, rfl⟩
            refine wpG_cons (gop (Instr.loadAt 3 (.pointer (some ⟨b, 116, none⟩))) (.int .i64 0) GN.refl fun w_ hJ hd => ?_) ?_
            · have e3 : vals 3 = _ := hd 3 (by decide) (by kernel_rfl)
              rw [e3]
              exact ⟨by kernel_rfl, by kernel_rfl, run_ldv hJ.heap (by omega) (by kernel_rfl) rfl (unhide Hsz), rfl⟩
            refine wpG_cons (gval (.int .u64 (behind pc size)) GN.refl fun w_ hJ hd => ?_) ?_
            · exact ⟨by kernel_rfl, by kernel_rfl, rfl⟩
            refine wpG_cons (gval (.pointer (some ⟨b, 112, none⟩)) GN.refl fun w_ hJ hd => ?_) ?_
            · have e0 : vals 0 = _ := hd 0 (by decide) (by kernel_rfl)
              rw [e0]
              exact ⟨by kernel_rfl, by kernel_rfl, rfl⟩
            refine wpG_cons (gval (.pointer (some ⟨b, 112, none⟩)) GN.refl fun w_ hJ hd => ?_) ?_
            · have e6 : vals 6 = _ := hd 6 (by decide) (by kernel_rfl)
              rw [e6]
              exact ⟨by kernel_rfl, by kernel_rfl, rfl⟩
            refine wpG_cons (gval (.pointer (some ⟨b, 112 + 0, none⟩)) GN.refl fun w_ hJ hd => ?_) wpG_nil
            · have e7 : vals 7 = _ := hd 7 (by decide) (by kernel_rfl)
              have e4 : vals 4 = _ := hd 4 (by decide) (by kernel_rfl)
              rw [e7, e4]
              exact ⟨by kernel_rfl, by kernel_rfl, rfl⟩
          · intro vals w_ hJ hf
            have e0 : vals 0 = _ := hf 0 (by decide)
            have e1 : vals 1 = _ := hf 1 (by decide)
            have e2 : vals 2 = _ := hf 2 (by decide)
            have e3 : vals 3 = _ := hf 3 (by decide)
            have e4 : vals 4 = _ := hf 4 (by decide)
            have e5 : vals 5 = _ := hf 5 (by decide)
            have e6 : vals 6 = _ := hf 6 (by decide)
            have e7 : vals 7 = _ := hf 7 (by decide)
            have e8 : vals 8 = _ := hf 8 (by decide)
            show Oper.wp _ _ (fillG vals 0 (_ :: _ :: _ :: _ :: _ :: _ :: _ :: _ :: _ :: []) _) _ _ _
            simp only [fillG, Nat.zero_add, Nat.reduceAdd, e0, e1, e2, e3, e4, e5, e6, e7, e8, Act.put, List.setIfInBounds_toArray, List.set_cons_succ, List.set_cons_zero]
            clear e0 e1 e2 e3 e4 e5 e6 e7 e8 hf
            refine wp_last_skip (w' := w_.setCell ⟨b, 112 + 0, none⟩ (.int .u64 (behind pc size))) (m := Instr.storeAt 22 (.pointer (some ⟨b, 112 + 0, none⟩)) (.int .u64 (behind pc size))) (by kernel_rfl) (run_gst hJ.heap (by omega) (by kernel_rfl)) ?_
            show Exit.then _ _ Exit.normal (Act.put ⟨_, _⟩ none _) _
            simp only [Act.put]
            have h5 := hJ.gset (112 + 0) (behind pc size) (k := .u64) rfl
            clear hJ
            generalize hw5 : w_.setCell ⟨b, 112 + 0, none⟩ (.int .u64 (behind pc size)) = w5 at *
            clear hw5
            have hl5 := lt_of_heap' h5.heap
            have d6 := (gcell h5.heap (i := 116) (by omega)).1
            have d6f := (gcell h5.heap (i := 116) (by omega)).2
            rw [show (upd (c) (112 + 0) (behind pc size)) 116 = 0 from (by unfold upd; rw [if_neg (by omega)]; exact unhide Hsz)] at d6
            have d1 := (gcell h5.heap (i := rowN pc * 3 + 1) (by omega)).1
            rw [k1, show (upd (c) (112 + 0) (behind pc size)) (rowN pc * 3 + 1) = c (rowN pc * 3 + 1) from by unfold upd; rw [if_neg (by omega)]] at d1
            change w5.cell? ⟨b, 116, none⟩ = some (.int .i64 0) at d6
            go_wp2
            go_ret
            exact ⟨by simp [nOut, unhide Hrk], by
              rw [show nSt c pc size = upd (upd (c) (112 + 0) (behind pc size)) 116 (0 + 1) from by simp [nSt, unhide Hrk, pushS, (unhide Hsz)]]
              exact h5.gset 116 (0 + 1) rfl⟩
        · have Hsz : c 116 = 1 := hs
          have c6 := (gcell h.heap (i := 116) (by omega)).1
          rw [show gk 116 = .i64 from rfl, Hsz] at c6
          have Hsz := hide Hsz
          clear hs
          go_wp2_with fail
          refine wp_region_E (fun w_ => Heap w0 w_ (HP.blk b (gl (c)).toArray 78 :: L)) GN (fun k_ v_ w_ => match k_ with
              | 0 => v_ = .pointer (some ⟨b, 112, none⟩)
              | 1 => v_ = .pointer (some ⟨b, 112, none⟩)
              | 2 => v_ = .pointer (some ⟨b, 112, none⟩)
              | 3 => v_ = .pointer (some ⟨b, 116, none⟩)
              | 4 => v_ = .int .i64 1
              | 5 => v_ = .int .u64 (behind pc size)
              | 6 => v_ = .pointer (some ⟨b, 112, none⟩)
              | 7 => v_ = .pointer (some ⟨b, 112, none⟩)
              | _ => v_ = .pointer (some ⟨b, 112 + 1, none⟩)) fol (by kernel_rfl) ?_ ?_ (n := 9) rfl rfl rfl (by kernel_rfl) ?_ ?_
          · exact h.drew
          · intro k_ v_ w_ w2_ h1 hg
            split at h1 <;> exact h1
          · intro vals
            show wpG _ _ _ _ _ _ 0 (_ :: _) _
            refine wpG_cons (gval (.pointer (some ⟨b, 112, none⟩)) GN.refl fun w_ hJ hd => ?_) ?_
            · exact ⟨by kernel_rfl, by kernel_rfl, rfl⟩
            refine wpG_cons (gval (.pointer (some ⟨b, 112, none⟩)) GN.refl fun w_ hJ hd => ?_) ?_
            · exact ⟨by kernel_rfl, by kernel_rfl, rfl⟩
            refine wpG_cons (gval (.pointer (some ⟨b, 112, none⟩)) GN.refl fun w_ hJ hd => ?_) ?_
            · have e1 : vals 1 = _ := hd 1 (by decide) (by kernel_rfl)
              rw [e1]
              exact ⟨by kernel_rfl, by kernel_rfl, rfl⟩
            refine wpG_cons (gval (.pointer (some ⟨b, 116, none⟩)) GN.refl fun w_ hJ hd => ?_) ?_
            · have e2 : vals 2 = _ := hd 2 (by decide) (by kernel_rfl)
              rw [e2]
              exact ⟨by kernel_rfl, by kernel_rfl, rfl⟩
            refine wpG_cons (gop (Instr.loadAt 3 (.pointer (some ⟨b, 116, none⟩))) (.int .i64 1) GN.refl fun w_ hJ hd => ?_) ?_
            · have e3 : vals 3 = _ := hd 3 (by decide) (by kernel_rfl)
              rw [e3]
              exact ⟨by kernel_rfl, by kernel_rfl, run_ldv hJ.heap (by omega) (by kernel_rfl) rfl (unhide Hsz), rfl⟩
            refine wpG_cons (gval (.int .u64 (behind pc size)) GN.refl fun w_ hJ hd => ?_) ?_
            · exact ⟨by kernel_rfl, by kernel_rfl, rfl⟩
            refine wpG_cons (gval (.pointer (some ⟨b, 112, none⟩)) GN.refl fun w_ hJ hd => ?_) ?_
            · have e0 : vals 0 = _ := hd 0 (by decide) (by kernel_rfl)
              rw [e0]
              exact ⟨by kernel_rfl, by kernel_rfl, rfl⟩
            refine wpG_cons (gval (.pointer (some ⟨b, 112, none⟩)) GN.refl fun w_ hJ hd => ?_) ?_
            · have e6 : vals 6 = _ := hd 6 (by decide) (by kernel_rfl)
              rw [e6]
              exact ⟨by kernel_rfl, by kernel_rfl, rfl⟩
            refine wpG_cons (gval (.pointer (some ⟨b, 112 + 1, none⟩)) GN.refl fun w_ hJ hd => ?_) wpG_nil
            · have e7 : vals 7 = _ := hd 7 (by decide) (by kernel_rfl)
              have e4 : vals 4 = _ := hd 4 (by decide) (by kernel_rfl)
              rw [e7, e4]
              exact ⟨by kernel_rfl, by kernel_rfl, rfl⟩
          · intro vals w_ hJ hf
            have e0 : vals 0 = _ := hf 0 (by decide)
            have e1 : vals 1 = _ := hf 1 (by decide)
            have e2 : vals 2 = _ := hf 2 (by decide)
            have e3 : vals 3 = _ := hf 3 (by decide)
            have e4 : vals 4 = _ := hf 4 (by decide)
            have e5 : vals 5 = _ := hf 5 (by decide)
            have e6 : vals 6 = _ := hf 6 (by decide)
            have e7 : vals 7 = _ := hf 7 (by decide)
            have e8 : vals 8 = _ := hf 8 (by decide)
            show Oper.wp _ _ (fillG vals 0 (_ :: _ :: _ :: _ :: _ :: _ :: _ :: _ :: _ :: []) _) _ _ _
            simp only [fillG, Nat.zero_add, Nat.reduceAdd, e0, e1, e2, e3, e4, e5, e6, e7, e8, Act.put, List.setIfInBounds_toArray, List.set_cons_succ, List.set_cons_zero]
            clear e0 e1 e2 e3 e4 e5 e6 e7 e8 hf
            refine wp_last_skip (w' := w_.setCell ⟨b, 112 + 1, none⟩ (.int .u64 (behind pc size))) (m := Instr.storeAt 22 (.pointer (some ⟨b, 112 + 1, none⟩)) (.int .u64 (behind pc size))) (by kernel_rfl) (run_gst hJ.heap (by omega) (by kernel_rfl)) ?_
            show Exit.then _ _ Exit.normal (Act.put ⟨_, _⟩ none _) _
            simp only [Act.put]
            have h5 := hJ.gset (112 + 1) (behind pc size) (k := .u64) rfl
            clear hJ
            generalize hw5 : w_.setCell ⟨b, 112 + 1, none⟩ (.int .u64 (behind pc size)) = w5 at *
            clear hw5
            have hl5 := lt_of_heap' h5.heap
            have d6 := (gcell h5.heap (i := 116) (by omega)).1
            have d6f := (gcell h5.heap (i := 116) (by omega)).2
            rw [show (upd (c) (112 + 1) (behind pc size)) 116 = 1 from (by unfold upd; rw [if_neg (by omega)]; exact unhide Hsz)] at d6
            have d1 := (gcell h5.heap (i := rowN pc * 3 + 1) (by omega)).1
            rw [k1, show (upd (c) (112 + 1) (behind pc size)) (rowN pc * 3 + 1) = c (rowN pc * 3 + 1) from by unfold upd; rw [if_neg (by omega)]] at d1
            change w5.cell? ⟨b, 116, none⟩ = some (.int .i64 1) at d6
            go_wp2
            go_ret
            exact ⟨by simp [nOut, unhide Hrk], by
              rw [show nSt c pc size = upd (upd (c) (112 + 1) (behind pc size)) 116 (1 + 1) from by simp [nSt, unhide Hrk, pushS, (unhide Hsz)]]
              exact h5.gset 116 (1 + 1) rfl⟩
        · have Hsz : c 116 = 2 := hs
          have c6 := (gcell h.heap (i := 116) (by omega)).1
          rw [show gk 116 = .i64 from rfl, Hsz] at c6
          have Hsz := hide Hsz
          clear hs
          go_wp2_with fail
          refine wp_region_E (fun w_ => Heap w0 w_ (HP.blk b (gl (c)).toArray 78 :: L)) GN (fun k_ v_ w_ => match k_ with
              | 0 => v_ = .pointer (some ⟨b, 112, none⟩)
              | 1 => v_ = .pointer (some ⟨b, 112, none⟩)
              | 2 => v_ = .pointer (some ⟨b, 112, none⟩)
              | 3 => v_ = .pointer (some ⟨b, 116, none⟩)
              | 4 => v_ = .int .i64 2
              | 5 => v_ = .int .u64 (behind pc size)
              | 6 => v_ = .pointer (some ⟨b, 112, none⟩)
              | 7 => v_ = .pointer (some ⟨b, 112, none⟩)
              | _ => v_ = .pointer (some ⟨b, 112 + 2, none⟩)) fol (by kernel_rfl) ?_ ?_ (n := 9) rfl rfl rfl (by kernel_rfl) ?_ ?_
          · exact h.drew
          · intro k_ v_ w_ w2_ h1 hg
            split at h1 <;> exact h1
          · intro vals
            show wpG _ _ _ _ _ _ 0 (_ :: _) _
            refine wpG_cons (gval (.pointer (some ⟨b, 112, none⟩)) GN.refl fun w_ hJ hd => ?_) ?_
            · exact ⟨by kernel_rfl, by kernel_rfl, rfl⟩
            refine wpG_cons (gval (.pointer (some ⟨b, 112, none⟩)) GN.refl fun w_ hJ hd => ?_) ?_
            · exact ⟨by kernel_rfl, by kernel_rfl, rfl⟩
            refine wpG_cons (gval (.pointer (some ⟨b, 112, none⟩)) GN.refl fun w_ hJ hd => ?_) ?_
            · have e1 : vals 1 = _ := hd 1 (by decide) (by kernel_rfl)
              rw [e1]
              exact ⟨by kernel_rfl, by kernel_rfl, rfl⟩
            refine wpG_cons (gval (.pointer (some ⟨b, 116, none⟩)) GN.refl fun w_ hJ hd => ?_) ?_
            · have e2 : vals 2 = _ := hd 2 (by decide) (by kernel_rfl)
              rw [e2]
              exact ⟨by kernel_rfl, by kernel_rfl, rfl⟩
            refine wpG_cons (gop (Instr.loadAt 3 (.pointer (some ⟨b, 116, none⟩))) (.int .i64 2) GN.refl fun w_ hJ hd => ?_) ?_
            · have e3 : vals 3 = _ := hd 3 (by decide) (by kernel_rfl)
              rw [e3]
              exact ⟨by kernel_rfl, by kernel_rfl, run_ldv hJ.heap (by omega) (by kernel_rfl) rfl (unhide Hsz), rfl⟩
            refine wpG_cons (gval (.int .u64 (behind pc size)) GN.refl fun w_ hJ hd => ?_) ?_
            · exact ⟨by kernel_rfl, by kernel_rfl, rfl⟩
            refine wpG_cons (gval (.pointer (some ⟨b, 112, none⟩)) GN.refl fun w_ hJ hd => ?_) ?_
            · have e0 : vals 0 = _ := hd 0 (by decide) (by kernel_rfl)
              rw [e0]
              exact ⟨by kernel_rfl, by kernel_rfl, rfl⟩
            refine wpG_cons (gval (.pointer (some ⟨b, 112, none⟩)) GN.refl fun w_ hJ hd => ?_) ?_
            · have e6 : vals 6 = _ := hd 6 (by decide) (by kernel_rfl)
              rw [e6]
              exact ⟨by kernel_rfl, by kernel_rfl, rfl⟩
            refine wpG_cons (gval (.pointer (some ⟨b, 112 + 2, none⟩)) GN.refl fun w_ hJ hd => ?_) wpG_nil
            · have e7 : vals 7 = _ := hd 7 (by decide) (by kernel_rfl)
              have e4 : vals 4 = _ := hd 4 (by decide) (by kernel_rfl)
              rw [e7, e4]
              exact ⟨by kernel_rfl, by kernel_rfl, rfl⟩
          · intro vals w_ hJ hf
            have e0 : vals 0 = _ := hf 0 (by decide)
            have e1 : vals 1 = _ := hf 1 (by decide)
            have e2 : vals 2 = _ := hf 2 (by decide)
            have e3 : vals 3 = _ := hf 3 (by decide)
            have e4 : vals 4 = _ := hf 4 (by decide)
            have e5 : vals 5 = _ := hf 5 (by decide)
            have e6 : vals 6 = _ := hf 6 (by decide)
            have e7 : vals 7 = _ := hf 7 (by decide)
            have e8 : vals 8 = _ := hf 8 (by decide)
            show Oper.wp _ _ (fillG vals 0 (_ :: _ :: _ :: _ :: _ :: _ :: _ :: _ :: _ :: []) _) _ _ _
            simp only [fillG, Nat.zero_add, Nat.reduceAdd, e0, e1, e2, e3, e4, e5, e6, e7, e8, Act.put, List.setIfInBounds_toArray, List.set_cons_succ, List.set_cons_zero]
            clear e0 e1 e2 e3 e4 e5 e6 e7 e8 hf
            refine wp_last_skip (w' := w_.setCell ⟨b, 112 + 2, none⟩ (.int .u64 (behind pc size))) (m := Instr.storeAt 22 (.pointer (some ⟨b, 112 + 2, none⟩)) (.int .u64 (behind pc size))) (by kernel_rfl) (run_gst hJ.heap (by omega) (by kernel_rfl)) ?_
            show Exit.then _ _ Exit.normal (Act.put ⟨_, _⟩ none _) _
            simp only [Act.put]
            have h5 := hJ.gset (112 + 2) (behind pc size) (k := .u64) rfl
            clear hJ
            generalize hw5 : w_.setCell ⟨b, 112 + 2, none⟩ (.int .u64 (behind pc size)) = w5 at *
            clear hw5
            have hl5 := lt_of_heap' h5.heap
            have d6 := (gcell h5.heap (i := 116) (by omega)).1
            have d6f := (gcell h5.heap (i := 116) (by omega)).2
            rw [show (upd (c) (112 + 2) (behind pc size)) 116 = 2 from (by unfold upd; rw [if_neg (by omega)]; exact unhide Hsz)] at d6
            have d1 := (gcell h5.heap (i := rowN pc * 3 + 1) (by omega)).1
            rw [k1, show (upd (c) (112 + 2) (behind pc size)) (rowN pc * 3 + 1) = c (rowN pc * 3 + 1) from by unfold upd; rw [if_neg (by omega)]] at d1
            change w5.cell? ⟨b, 116, none⟩ = some (.int .i64 2) at d6
            go_wp2
            go_ret
            exact ⟨by simp [nOut, unhide Hrk], by
              rw [show nSt c pc size = upd (upd (c) (112 + 2) (behind pc size)) 116 (2 + 1) from by simp [nSt, unhide Hrk, pushS, (unhide Hsz)]]
              exact h5.gset 116 (2 + 1) rfl⟩
        · have Hsz : c 116 = 3 := hs
          have c6 := (gcell h.heap (i := 116) (by omega)).1
          rw [show gk 116 = .i64 from rfl, Hsz] at c6
          have Hsz := hide Hsz
          clear hs
          go_wp2_with fail
          refine wp_region_E (fun w_ => Heap w0 w_ (HP.blk b (gl (c)).toArray 78 :: L)) GN (fun k_ v_ w_ => match k_ with
              | 0 => v_ = .pointer (some ⟨b, 112, none⟩)
              | 1 => v_ = .pointer (some ⟨b, 112, none⟩)
              | 2 => v_ = .pointer (some ⟨b, 112, none⟩)
              | 3 => v_ = .pointer (some ⟨b, 116, none⟩)
              | 4 => v_ = .int .i64 3
              | 5 => v_ = .int .u64 (behind pc size)
              | 6 => v_ = .pointer (some ⟨b, 112, none⟩)
              | 7 => v_ = .pointer (some ⟨b, 112, none⟩)
              | _ => v_ = .pointer (some ⟨b, 112 + 3, none⟩)) fol (by kernel_rfl) ?_ ?_ (n := 9) rfl rfl rfl (by kernel_rfl) ?_ ?_
          · exact h.drew
          · intro k_ v_ w_ w2_ h1 hg
            split at h1 <;> exact h1
          · intro vals
            show wpG _ _ _ _ _ _ 0 (_ :: _) _
            refine wpG_cons (gval (.pointer (some ⟨b, 112, none⟩)) GN.refl fun w_ hJ hd => ?_) ?_
            · exact ⟨by kernel_rfl, by kernel_rfl, rfl⟩
            refine wpG_cons (gval (.pointer (some ⟨b, 112, none⟩)) GN.refl fun w_ hJ hd => ?_) ?_
            · exact ⟨by kernel_rfl, by kernel_rfl, rfl⟩
            refine wpG_cons (gval (.pointer (some ⟨b, 112, none⟩)) GN.refl fun w_ hJ hd => ?_) ?_
            · have e1 : vals 1 = _ := hd 1 (by decide) (by kernel_rfl)
              rw [e1]
              exact ⟨by kernel_rfl, by kernel_rfl, rfl⟩
            refine wpG_cons (gval (.pointer (some ⟨b, 116, none⟩)) GN.refl fun w_ hJ hd => ?_) ?_
            · have e2 : vals 2 = _ := hd 2 (by decide) (by kernel_rfl)
              rw [e2]
              exact ⟨by kernel_rfl, by kernel_rfl, rfl⟩
            refine wpG_cons (gop (Instr.loadAt 3 (.pointer (some ⟨b, 116, none⟩))) (.int .i64 3) GN.refl fun w_ hJ hd => ?_) ?_
            · have e3 : vals 3 = _ := hd 3 (by decide) (by kernel_rfl)
              rw [e3]
              exact ⟨by kernel_rfl, by kernel_rfl, run_ldv hJ.heap (by omega) (by kernel_rfl) rfl (unhide Hsz), rfl⟩
            refine wpG_cons (gval (.int .u64 (behind pc size)) GN.refl fun w_ hJ hd => ?_) ?_
            · exact ⟨by kernel_rfl, by kernel_rfl, rfl⟩
            refine wpG_cons (gval (.pointer (some ⟨b, 112, none⟩)) GN.refl fun w_ hJ hd => ?_) ?_
            · have e0 : vals 0 = _ := hd 0 (by decide) (by kernel_rfl)
              rw [e0]
              exact ⟨by kernel_rfl, by kernel_rfl, rfl⟩
            refine wpG_cons (gval (.pointer (some ⟨b, 112, none⟩)) GN.refl fun w_ hJ hd => ?_) ?_
            · have e6 : vals 6 = _ := hd 6 (by decide) (by kernel_rfl)
              rw [e6]
              exact ⟨by kernel_rfl, by kernel_rfl, rfl⟩
            refine wpG_cons (gval (.pointer (some ⟨b, 112 + 3, none⟩)) GN.refl fun w_ hJ hd => ?_) wpG_nil
            · have e7 : vals 7 = _ := hd 7 (by decide) (by kernel_rfl)
              have e4 : vals 4 = _ := hd 4 (by decide) (by kernel_rfl)
              rw [e7, e4]
              exact ⟨by kernel_rfl, by kernel_rfl, rfl⟩
          · intro vals w_ hJ hf
            have e0 : vals 0 = _ := hf 0 (by decide)
            have e1 : vals 1 = _ := hf 1 (by decide)
            have e2 : vals 2 = _ := hf 2 (by decide)
            have e3 : vals 3 = _ := hf 3 (by decide)
            have e4 : vals 4 = _ := hf 4 (by decide)
            have e5 : vals 5 = _ := hf 5 (by decide)
            have e6 : vals 6 = _ := hf 6 (by decide)
            have e7 : vals 7 = _ := hf 7 (by decide)
            have e8 : vals 8 = _ := hf 8 (by decide)
            show Oper.wp _ _ (fillG vals 0 (_ :: _ :: _ :: _ :: _ :: _ :: _ :: _ :: _ :: []) _) _ _ _
            simp only [fillG, Nat.zero_add, Nat.reduceAdd, e0, e1, e2, e3, e4, e5, e6, e7, e8, Act.put, List.setIfInBounds_toArray, List.set_cons_succ, List.set_cons_zero]
            clear e0 e1 e2 e3 e4 e5 e6 e7 e8 hf
            refine wp_last_skip (w' := w_.setCell ⟨b, 112 + 3, none⟩ (.int .u64 (behind pc size))) (m := Instr.storeAt 22 (.pointer (some ⟨b, 112 + 3, none⟩)) (.int .u64 (behind pc size))) (by kernel_rfl) (run_gst hJ.heap (by omega) (by kernel_rfl)) ?_
            show Exit.then _ _ Exit.normal (Act.put ⟨_, _⟩ none _) _
            simp only [Act.put]
            have h5 := hJ.gset (112 + 3) (behind pc size) (k := .u64) rfl
            clear hJ
            generalize hw5 : w_.setCell ⟨b, 112 + 3, none⟩ (.int .u64 (behind pc size)) = w5 at *
            clear hw5
            have hl5 := lt_of_heap' h5.heap
            have d6 := (gcell h5.heap (i := 116) (by omega)).1
            have d6f := (gcell h5.heap (i := 116) (by omega)).2
            rw [show (upd (c) (112 + 3) (behind pc size)) 116 = 3 from (by unfold upd; rw [if_neg (by omega)]; exact unhide Hsz)] at d6
            have d1 := (gcell h5.heap (i := rowN pc * 3 + 1) (by omega)).1
            rw [k1, show (upd (c) (112 + 3) (behind pc size)) (rowN pc * 3 + 1) = c (rowN pc * 3 + 1) from by unfold upd; rw [if_neg (by omega)]] at d1
            change w5.cell? ⟨b, 116, none⟩ = some (.int .i64 3) at d6
            go_wp2
            go_ret
            exact ⟨by simp [nOut, unhide Hrk], by
              rw [show nSt c pc size = upd (upd (c) (112 + 3) (behind pc size)) 116 (3 + 1) from by simp [nSt, unhide Hrk, pushS, (unhide Hsz)]]
              exact h5.gset 116 (3 + 1) rfl⟩
        · have Hsz : c 116 = 4 := hs
          have c6 := (gcell h.heap (i := 116) (by omega)).1
          rw [show gk 116 = .i64 from rfl, Hsz] at c6
          have Hsz := hide Hsz
          clear hs
          go_wp2_with fail
          refine wp_region_E (fun w_ => Heap w0 w_ (HP.blk b (gl (c)).toArray 78 :: L)) GN (fun k_ v_ w_ => match k_ with
              | 0 => v_ = .pointer (some ⟨b, 112, none⟩)
              | 1 => v_ = .pointer (some ⟨b, 112, none⟩)
              | 2 => v_ = .pointer (some ⟨b, 112, none⟩)
              | 3 => v_ = .slice (some ⟨b, 112, none⟩) 4 4
              | 4 => v_ = .pointer (some ⟨b, 112, none⟩)
              | 5 => v_ = .pointer (some ⟨b, 112, none⟩)
              | 6 => v_ = .pointer (some ⟨b, 112, none⟩)
              | _ => v_ = .slice (some ⟨b, 113, none⟩) 3 3) fol (by kernel_rfl) ?_ ?_ (n := 8) rfl rfl rfl (by kernel_rfl) ?_ ?_
          · exact h.drew
          · intro k_ v_ w_ w2_ h1 hg
            split at h1 <;> exact h1
          · intro vals
            show wpG _ _ _ _ _ _ 0 (_ :: _) _
            refine wpG_cons (gval (.pointer (some ⟨b, 112, none⟩)) GN.refl fun w_ hJ hd => ?_) ?_
            · exact ⟨by kernel_rfl, by kernel_rfl, rfl⟩
            refine wpG_cons (gval (.pointer (some ⟨b, 112, none⟩)) GN.refl fun w_ hJ hd => ?_) ?_
            · have e0 : vals 0 = _ := hd 0 (by decide) (by kernel_rfl)
              rw [e0]
              exact ⟨by kernel_rfl, by kernel_rfl, rfl⟩
            refine wpG_cons (gval (.pointer (some ⟨b, 112, none⟩)) GN.refl fun w_ hJ hd => ?_) ?_
            · have e1 : vals 1 = _ := hd 1 (by decide) (by kernel_rfl)
              rw [e1]
              exact ⟨by kernel_rfl, by kernel_rfl, rfl⟩
            refine wpG_cons (gval (.slice (some ⟨b, 112, none⟩) 4 4) GN.refl fun w_ hJ hd => ?_) ?_
            · have e2 : vals 2 = _ := hd 2 (by decide) (by kernel_rfl)
              rw [e2]
              exact ⟨by kernel_rfl, by kernel_rfl, rfl⟩
            refine wpG_cons (gval (.pointer (some ⟨b, 112, none⟩)) GN.refl fun w_ hJ hd => ?_) ?_
            · exact ⟨by kernel_rfl, by kernel_rfl, rfl⟩
            refine wpG_cons (gval (.pointer (some ⟨b, 112, none⟩)) GN.refl fun w_ hJ hd => ?_) ?_
            · have e4 : vals 4 = _ := hd 4 (by decide) (by kernel_rfl)
              rw [e4]
              exact ⟨by kernel_rfl, by kernel_rfl, rfl⟩
            refine wpG_cons (gval (.pointer (some ⟨b, 112, none⟩)) GN.refl fun w_ hJ hd => ?_) ?_
            · have e5 : vals 5 = _ := hd 5 (by decide) (by kernel_rfl)
              rw [e5]
              exact ⟨by kernel_rfl, by kernel_rfl, rfl⟩
            refine wpG_cons (gval (.slice (some ⟨b, 113, none⟩) 3 3) GN.refl fun w_ hJ hd => ?_) wpG_nil
            · have e6 : vals 6 = _ := hd 6 (by decide) (by kernel_rfl)
              rw [e6]
              exact ⟨by kernel_rfl, by kernel_rfl, rfl⟩
          · intro vals w_ hJ hf
            have e0 : vals 0 = _ := hf 0 (by decide)
            have e1 : vals 1 = _ := hf 1 (by decide)
            have e2 : vals 2 = _ := hf 2 (by decide)
            have e3 : vals 3 = _ := hf 3 (by decide)
            have e4 : vals 4 = _ := hf 4 (by decide)
            have e5 : vals 5 = _ := hf 5 (by decide)
            have e6 : vals 6 = _ := hf 6 (by decide)
            have e7 : vals 7 = _ := hf 7 (by decide)
            show Oper.wp _ _ (fillG vals 0 (_ :: _ :: _ :: _ :: _ :: _ :: _ :: _ :: []) _) _ _ _
            simp only [fillG, Nat.zero_add, Nat.reduceAdd, e0, e1, e2, e3, e4, e5, e6, e7, Act.put, List.setIfInBounds_toArray, List.set_cons_succ, List.set_cons_zero]
            clear e0 e1 e2 e3 e4 e5 e6 e7 hf
            refine wp_last_value (w' := w_.setCells b 112 [.int .u64 (c 113), .int .u64 (c 114), .int .u64 (c 115)]) (v := goInt 3) (Eq.trans (b := Sem.run Tryd.prog (do let r ← Builtin.copy_ #[85, 85] 3 #[.slice (some ⟨b, 112, none⟩) 4 4, .slice (some ⟨b, 113, none⟩) 3 3]; pure (Next.value r) : Sem Next) w_) (by kernel_rfl) (run_val (run_copy_cells w_ 85 85 3 22 b 112 4 4 ⟨b, 113, none⟩ 3 3 [.int .u64 (c 113), .int .u64 (c 114), .int .u64 (c 115)] Tryd.underlying85 (by kernel_rfl) rfl ?_ ?_ ?_ ?_))) ?_
            · intro j v hj
              have h3 : j = 0 ∨ j = 1 ∨ j = 2 := by
                have := (List.getElem?_eq_some_iff.1 hj).1
                simp at this
                omega
              rcases h3 with rfl | rfl | rfl
              · simp at hj; subst hj; exact (gcell hJ.heap (i := 113) (by omega)).1
              · simp at hj; subst hj; exact (gcell hJ.heap (i := 114) (by omega)).1
              · simp at hj; subst hj; exact (gcell hJ.heap (i := 115) (by omega)).1
            · intro j hj
              simp at hj
              rw [(gcell hJ.heap (i := 112 + j) (by omega)).1]; rfl
            · intro j hj
              simp at hj
              exact (gcell hJ.heap (i := 112 + j) (by omega)).2
            · intro v hv
              simp at hv
              rcases hv with rfl | rfl | rfl <;> rfl
            show Exit.then _ _ Exit.normal (Act.put ⟨_, _⟩ (some _) _) _
            simp only [Act.put, List.setIfInBounds_toArray, List.set_cons_succ, List.set_cons_zero]
            have h4 : Heap w0 (w_.setCells b 112 [.int .u64 (c 113), .int .u64 (c 114), .int .u64 (c 115)]) (HP.blk b (gl (shift c)).toArray 78 :: L) := ((hJ.gset 112 (c 113) (k := .u64) rfl).gset 113 (c 114) (k := .u64) rfl).gset 114 (c 115) (k := .u64) rfl
            clear hJ
            generalize hw4 : w_.setCells b 112 [.int .u64 (c 113), .int .u64 (c 114), .int .u64 (c 115)] = w4 at *
            clear hw4
            have hl4 := lt_of_heap' h4.heap
            have b6 := (gcell h4.heap (i := 116) (by omega)).1
            have b6f := (gcell h4.heap (i := 116) (by omega)).2
            rw [show (shift c) 116 = 4 from by simp [shift, upd]; exact unhide Hsz] at b6
            change w4.cell? ⟨b, 116, none⟩ = some (.int .i64 4) at b6
            go_wp2_with fail
            refine wp_region_E (fun w_ => Heap w0 w_ (HP.blk b (gl (upd (shift c) 116 3)).toArray 78 :: L)) GN (fun k_ v_ w_ => match k_ with
                | 0 => v_ = .pointer (some ⟨b, 112, none⟩)
                | 1 => v_ = .pointer (some ⟨b, 112, none⟩)
                | 2 => v_ = .pointer (some ⟨b, 112, none⟩)
                | 3 => v_ = .pointer (some ⟨b, 116, none⟩)
                | 4 => v_ = .int .i64 3
                | 5 => v_ = .int .u64 (behind pc size)
                | 6 => v_ = .pointer (some ⟨b, 112, none⟩)
                | 7 => v_ = .pointer (some ⟨b, 112, none⟩)
                | _ => v_ = .pointer (some ⟨b, 112 + 3, none⟩)) fol (by kernel_rfl) ?_ ?_ (n := 9) rfl rfl rfl (by kernel_rfl) ?_ ?_
            · exact (h4.gset 116 3 (k := .i64) rfl).drew
            · intro k_ v_ w_ w2_ h1 hg
              split at h1 <;> exact h1
            · intro vals
              show wpG _ _ _ _ _ _ 0 (_ :: _) _
              refine wpG_cons (gval (.pointer (some ⟨b, 112, none⟩)) GN.refl fun w_ hJ hd => ?_) ?_
              · exact ⟨by kernel_rfl, by kernel_rfl, rfl⟩
              refine wpG_cons (gval (.pointer (some ⟨b, 112, none⟩)) GN.refl fun w_ hJ hd => ?_) ?_
              · exact ⟨by kernel_rfl, by kernel_rfl, rfl⟩
              refine wpG_cons (gval (.pointer (some ⟨b, 112, none⟩)) GN.refl fun w_ hJ hd => ?_) ?_
              · have e1 : vals 1 = _ := hd 1 (by decide) (by kernel_rfl)
                rw [e1]
                exact ⟨by kernel_rfl, by kernel_rfl, rfl⟩
              refine wpG_cons (gval (.pointer (some ⟨b, 116, none⟩)) GN.refl fun w_ hJ hd => ?_) ?_
              · have e2 : vals 2 = _ := hd 2 (by decide) (by kernel_rfl)
                rw [e2]
                exact ⟨by kernel_rfl, by kernel_rfl, rfl⟩
              refine wpG_cons (gop (Instr.loadAt 3 (.pointer (some ⟨b, 116, none⟩))) (.int .i64 3) GN.refl fun w_ hJ hd => ?_) ?_
              · have e3 : vals 3 = _ := hd 3 (by decide) (by kernel_rfl)
                rw [e3]
                exact ⟨by kernel_rfl, by kernel_rfl, run_ldv hJ.heap (by omega) (by kernel_rfl) rfl (by simp [upd]), rfl⟩
              refine wpG_cons (gval (.int .u64 (behind pc size)) GN.refl fun w_ hJ hd => ?_) ?_
              · exact ⟨by kernel_rfl, by kernel_rfl, rfl⟩
              refine wpG_cons (gval (.pointer (some ⟨b, 112, none⟩)) GN.refl fun w_ hJ hd => ?_) ?_
              · have e0 : vals 0 = _ := hd 0 (by decide) (by kernel_rfl)
                rw [e0]
                exact ⟨by kernel_rfl, by kernel_rfl, rfl⟩
              refine wpG_cons (gval (.pointer (some ⟨b, 112, none⟩)) GN.refl fun w_ hJ hd => ?_) ?_
              · have e6 : vals 6 = _ := hd 6 (by decide) (by kernel_rfl)
                rw [e6]
                exact ⟨by kernel_rfl, by kernel_rfl, rfl⟩
              refine wpG_cons (gval (.pointer (some ⟨b, 112 + 3, none⟩)) GN.refl fun w_ hJ hd => ?_) wpG_nil
              · have e7 : vals 7 = _ := hd 7 (by decide) (by kernel_rfl)
                have e4 : vals 4 = _ := hd 4 (by decide) (by kernel_rfl)
                rw [e7, e4]
                exact ⟨by kernel_rfl, by kernel_rfl, rfl⟩
            · intro vals w_ hJ hf
              have e0 : vals 0 = _ := hf 0 (by decide)
              have e1 : vals 1 = _ := hf 1 (by decide)
              have e2 : vals 2 = _ := hf 2 (by decide)
              have e3 : vals 3 = _ := hf 3 (by decide)
              have e4 : vals 4 = _ := hf 4 (by decide)
              have e5 : vals 5 = _ := hf 5 (by decide)
              have e6 : vals 6 = _ := hf 6 (by decide)
              have e7 : vals 7 = _ := hf 7 (by decide)
              have e8 : vals 8 = _ := hf 8 (by decide)
              show Oper.wp _ _ (fillG vals 0 (_ :: _ :: _ :: _ :: _ :: _ :: _ :: _ :: _ :: []) _) _ _ _
              simp only [fillG, Nat.zero_add, Nat.reduceAdd, e0, e1, e2, e3, e4, e5, e6, e7, e8, Act.put, List.setIfInBounds_toArray, List.set_cons_succ, List.set_cons_zero]
              clear e0 e1 e2 e3 e4 e5 e6 e7 e8 hf
              refine wp_last_skip (w' := w_.setCell ⟨b, 112 + 3, none⟩ (.int .u64 (behind pc size))) (m := Instr.storeAt 22 (.pointer (some ⟨b, 112 + 3, none⟩)) (.int .u64 (behind pc size))) (by kernel_rfl) (run_gst hJ.heap (by omega) (by kernel_rfl)) ?_
              show Exit.then _ _ Exit.normal (Act.put ⟨_, _⟩ none _) _
              simp only [Act.put]
              have h5 := hJ.gset (112 + 3) (behind pc size) (k := .u64) rfl
              clear hJ
              generalize hw5 : w_.setCell ⟨b, 112 + 3, none⟩ (.int .u64 (behind pc size)) = w5 at *
              clear hw5
              have hl5 := lt_of_heap' h5.heap
              have d6 := (gcell h5.heap (i := 116) (by omega)).1
              have d6f := (gcell h5.heap (i := 116) (by omega)).2
              rw [show (upd (upd (shift c) 116 3) (112 + 3) (behind pc size)) 116 = 3 from (by simp [upd])] at d6
              have d1 := (gcell h5.heap (i := rowN pc * 3 + 1) (by omega)).1
              rw [k1, show (upd (upd (shift c) 116 3) (112 + 3) (behind pc size)) (rowN pc * 3 + 1) = c (rowN pc * 3 + 1) from by unfold shift upd; repeat rw [if_neg (by omega)]] at d1
              change w5.cell? ⟨b, 116, none⟩ = some (.int .i64 3) at d6
              go_wp2
              go_ret
              exact ⟨by simp [nOut, unhide Hrk], by
                rw [show nSt c pc size = upd (upd (upd (shift c) 116 3) (112 + 3) (behind pc size)) 116 (3 + 1) from by simp [nSt, unhide Hrk, pushS, unhide Hsz, shift]]
                exact h5.gset 116 (3 + 1) rfl⟩
      · have hss : c 116 = 0 ∨ c 116 = 1 ∨ c 116 = 2 ∨ c 116 = 3 ∨ c 116 = 4 := by have := hI.size; omega
        rcases hss with hs | hs | hs | hs | hs
        · have Hsz : c 116 = 0 := hs
          have c6 := (gcell h.heap (i := 116) (by omega)).1
          rw [show gk 116 = .i64 from rfl, Hsz] at c6
          have Hsz := hide Hsz
          clear hs
          go_wp2
          go_ret
          exact ⟨by simp [nOut, unhide Hrk, unhide Hsz], by simp [nSt, unhide Hrk, popS, unhide Hsz]; exact h⟩
        · have Hsz : c 116 = 1 := hs
          have c6 := (gcell h.heap (i := 116) (by omega)).1
          rw [show gk 116 = .i64 from rfl, Hsz] at c6
          have Hsz := hide Hsz
          clear hs
          have c6f := (gcell h.heap (i := 116) (by omega)).2
          go_wp2_with fail
          refine wp_region_F (fun w_ => Heap w0 w_ (HP.blk b (gl (upd c 116 0)).toArray 78 :: L)) GN (fun k_ v_ w_ => match k_ with
              | 0 => v_ = .pointer (some ⟨b, 112, none⟩)
              | 1 => v_ = .pointer (some ⟨b, 112, none⟩)
              | 2 => v_ = .pointer (some ⟨b, 112, none⟩)
              | 3 => v_ = .pointer (some ⟨b, 116, none⟩)
              | 4 => v_ = .int .i64 0
              | 5 => v_ = .pointer (some ⟨b, 112, none⟩)
              | 6 => v_ = .pointer (some ⟨b, 112, none⟩)
              | 7 => v_ = .pointer (some ⟨b, 112 + 0, none⟩)
              | 8 => v_ = .int .u64 (c (112 + 0))
              | _ => v_ = .int .u64 (c (112 + 0))) fol (by kernel_rfl) ?_ ?_ ?_ ?_
          · exact (h.gset 116 0 (k := .i64) rfl).drew
          · intro k_ v_ w_ w2_ h1 hg
            split at h1 <;> exact h1
          · intro vals
            show wpG _ _ _ _ _ _ 0 (_ :: _) _
            refine wpG_cons (gval (.pointer (some ⟨b, 112, none⟩)) GN.refl fun w_ hJ hd => ?_) ?_
            · exact ⟨by kernel_rfl, by kernel_rfl, rfl⟩
            refine wpG_cons (gval (.pointer (some ⟨b, 112, none⟩)) GN.refl fun w_ hJ hd => ?_) ?_
            · exact ⟨by kernel_rfl, by kernel_rfl, rfl⟩
            refine wpG_cons (gval (.pointer (some ⟨b, 112, none⟩)) GN.refl fun w_ hJ hd => ?_) ?_
            · have e1 : vals 1 = _ := hd 1 (by decide) (by kernel_rfl)
              rw [e1]
              exact ⟨by kernel_rfl, by kernel_rfl, rfl⟩
            refine wpG_cons (gval (.pointer (some ⟨b, 116, none⟩)) GN.refl fun w_ hJ hd => ?_) ?_
            · have e2 : vals 2 = _ := hd 2 (by decide) (by kernel_rfl)
              rw [e2]
              exact ⟨by kernel_rfl, by kernel_rfl, rfl⟩
            refine wpG_cons (gop (Instr.loadAt 3 (.pointer (some ⟨b, 116, none⟩))) (.int .i64 0) GN.refl fun w_ hJ hd => ?_) ?_
            · have e3 : vals 3 = _ := hd 3 (by decide) (by kernel_rfl)
              rw [e3]
              exact ⟨by kernel_rfl, by kernel_rfl, run_ldv hJ.heap (by omega) (by kernel_rfl) rfl (by simp [upd]), rfl⟩
            refine wpG_cons (gval (.pointer (some ⟨b, 112, none⟩)) GN.refl fun w_ hJ hd => ?_) ?_
            · have e0 : vals 0 = _ := hd 0 (by decide) (by kernel_rfl)
              rw [e0]
              exact ⟨by kernel_rfl, by kernel_rfl, rfl⟩
            refine wpG_cons (gval (.pointer (some ⟨b, 112, none⟩)) GN.refl fun w_ hJ hd => ?_) ?_
            · have e5 : vals 5 = _ := hd 5 (by decide) (by kernel_rfl)
              rw [e5]
              exact ⟨by kernel_rfl, by kernel_rfl, rfl⟩
            refine wpG_cons (gval (.pointer (some ⟨b, 112 + 0, none⟩)) GN.refl fun w_ hJ hd => ?_) ?_
            · have e6 : vals 6 = _ := hd 6 (by decide) (by kernel_rfl)
              have e4 : vals 4 = _ := hd 4 (by decide) (by kernel_rfl)
              rw [e6, e4]
              exact ⟨by kernel_rfl, by kernel_rfl, rfl⟩
            refine wpG_cons (gop (Instr.loadAt 22 (.pointer (some ⟨b, 112 + 0, none⟩))) (.int .u64 (c (112 + 0))) GN.refl fun w_ hJ hd => ?_) ?_
            · have e7 : vals 7 = _ := hd 7 (by decide) (by kernel_rfl)
              rw [e7]
              exact ⟨by kernel_rfl, by kernel_rfl, run_ldv hJ.heap (by omega) (by kernel_rfl) rfl (by simp [upd]), rfl⟩
            refine wpG_cons (gval (.int .u64 (c (112 + 0))) GN.refl fun w_ hJ hd => ?_) wpG_nil
            · have e8 : vals 8 = _ := hd 8 (by decide) (by kernel_rfl)
              rw [e8]
              exact ⟨by kernel_rfl, by kernel_rfl, rfl⟩
          · intro vals w_ hJ hf
            have e0 : vals 0 = _ := hf 0 (by decide)
            have e1 : vals 1 = _ := hf 1 (by decide)
            have e2 : vals 2 = _ := hf 2 (by decide)
            have e3 : vals 3 = _ := hf 3 (by decide)
            have e4 : vals 4 = _ := hf 4 (by decide)
            have e5 : vals 5 = _ := hf 5 (by decide)
            have e6 : vals 6 = _ := hf 6 (by decide)
            have e7 : vals 7 = _ := hf 7 (by decide)
            have e8 : vals 8 = _ := hf 8 (by decide)
            have e9 : vals 9 = _ := hf 9 (by decide)
            simp only [fillG, Nat.zero_add, Nat.reduceAdd, e0, e1, e2, e3, e4, e5, e6, e7, e8, e9, Act.put, List.setIfInBounds_toArray, List.set_cons_succ, List.set_cons_zero]
            clear e0 e1 e2 e3 e4 e5 e6 e7 e8 e9 hf
            have h3 := hJ
            clear hJ
            go_wp2_with fail
            refine wp_region_E (fun w_ => Heap w0 w_ (HP.blk b (gl (upd c 116 0)).toArray 78 :: L)) GN (fun k_ v_ w_ => match k_ with
                | 0 => v_ = .pointer (some ⟨b, 112, none⟩)
                | 1 => v_ = .pointer (some ⟨b, 112, none⟩)
                | 2 => v_ = .pointer (some ⟨b, 112, none⟩)
                | 3 => v_ = .pointer (some ⟨b, 116, none⟩)
                | 4 => v_ = .int .i64 0
                | 5 => v_ = .pointer (some ⟨b, 112, none⟩)
                | 6 => v_ = .pointer (some ⟨b, 112, none⟩)
                | _ => v_ = .pointer (some ⟨b, 112 + 0, none⟩)) fol (by kernel_rfl) ?_ ?_ (n := 8) rfl rfl rfl (by kernel_rfl) ?_ ?_
            · exact h3.drew
            · intro k_ v_ w_ w2_ h1 hg
              split at h1 <;> exact h1
            · intro vals
              show wpG _ _ _ _ _ _ 0 (_ :: _) _
              refine wpG_cons (gval (.pointer (some ⟨b, 112, none⟩)) GN.refl fun w_ hJ hd => ?_) ?_
              · exact ⟨by kernel_rfl, by kernel_rfl, rfl⟩
              refine wpG_cons (gval (.pointer (some ⟨b, 112, none⟩)) GN.refl fun w_ hJ hd => ?_) ?_
              · exact ⟨by kernel_rfl, by kernel_rfl, rfl⟩
              refine wpG_cons (gval (.pointer (some ⟨b, 112, none⟩)) GN.refl fun w_ hJ hd => ?_) ?_
              · have e1 : vals 1 = _ := hd 1 (by decide) (by kernel_rfl)
                rw [e1]
                exact ⟨by kernel_rfl, by kernel_rfl, rfl⟩
              refine wpG_cons (gval (.pointer (some ⟨b, 116, none⟩)) GN.refl fun w_ hJ hd => ?_) ?_
              · have e2 : vals 2 = _ := hd 2 (by decide) (by kernel_rfl)
                rw [e2]
                exact ⟨by kernel_rfl, by kernel_rfl, rfl⟩
              refine wpG_cons (gop (Instr.loadAt 3 (.pointer (some ⟨b, 116, none⟩))) (.int .i64 0) GN.refl fun w_ hJ hd => ?_) ?_
              · have e3 : vals 3 = _ := hd 3 (by decide) (by kernel_rfl)
                rw [e3]
                exact ⟨by kernel_rfl, by kernel_rfl, run_ldv hJ.heap (by omega) (by kernel_rfl) rfl (by simp [upd]), rfl⟩
              refine wpG_cons (gval (.pointer (some ⟨b, 112, none⟩)) GN.refl fun w_ hJ hd => ?_) ?_
              · have e0 : vals 0 = _ := hd 0 (by decide) (by kernel_rfl)
                rw [e0]
                exact ⟨by kernel_rfl, by kernel_rfl, rfl⟩
              refine wpG_cons (gval (.pointer (some ⟨b, 112, none⟩)) GN.refl fun w_ hJ hd => ?_) ?_
              · have e5 : vals 5 = _ := hd 5 (by decide) (by kernel_rfl)
                rw [e5]
                exact ⟨by kernel_rfl, by kernel_rfl, rfl⟩
              refine wpG_cons (gval (.pointer (some ⟨b, 112 + 0, none⟩)) GN.refl fun w_ hJ hd => ?_) wpG_nil
              · have e6 : vals 6 = _ := hd 6 (by decide) (by kernel_rfl)
                have e4 : vals 4 = _ := hd 4 (by decide) (by kernel_rfl)
                rw [e6, e4]
                exact ⟨by kernel_rfl, by kernel_rfl, rfl⟩
            · intro vals w_ hJ hf
              have e0 : vals 0 = _ := hf 0 (by decide)
              have e1 : vals 1 = _ := hf 1 (by decide)
              have e2 : vals 2 = _ := hf 2 (by decide)
              have e3 : vals 3 = _ := hf 3 (by decide)
              have e4 : vals 4 = _ := hf 4 (by decide)
              have e5 : vals 5 = _ := hf 5 (by decide)
              have e6 : vals 6 = _ := hf 6 (by decide)
              have e7 : vals 7 = _ := hf 7 (by decide)
              show Oper.wp _ _ (fillG vals 0 (_ :: _ :: _ :: _ :: _ :: _ :: _ :: _ :: []) _) _ _ _
              simp only [fillG, Nat.zero_add, Nat.reduceAdd, e0, e1, e2, e3, e4, e5, e6, e7, Act.put, List.setIfInBounds_toArray, List.set_cons_succ, List.set_cons_zero]
              clear e0 e1 e2 e3 e4 e5 e6 e7 hf
              refine wp_last_skip (w' := w_.setCell ⟨b, 112 + 0, none⟩ (.int .u64 0)) (m := Instr.storeAt 22 (.pointer (some ⟨b, 112 + 0, none⟩)) (.int .u64 0)) (by kernel_rfl) (run_gst hJ.heap (by omega) (by kernel_rfl)) ?_
              show Exit.then _ _ Exit.normal (Act.put ⟨_, _⟩ none _) _
              simp only [Act.put]
              have h5 := hJ.gset (112 + 0) 0 (k := .u64) rfl
              clear hJ h3
              go_wp2
              go_ret
              exact ⟨by simp [nOut, unhide Hrk, unhide Hsz], by
                rw [show nSt c pc size = upd (upd c 116 0) (112 + 0) 0 from by simp [nSt, unhide Hrk, popS, unhide Hsz]]
                exact h5⟩
        · have Hsz : c 116 = 2 := hs
          have c6 := (gcell h.heap (i := 116) (by omega)).1
          rw [show gk 116 = .i64 from rfl, Hsz] at c6
          have Hsz := hide Hsz
          clear hs
          have c6f := (gcell h.heap (i := 116) (by omega)).2
          go_wp2_with fail
          refine wp_region_F (fun w_ => Heap w0 w_ (HP.blk b (gl (upd c 116 1)).toArray 78 :: L)) GN (fun k_ v_ w_ => match k_ with
              | 0 => v_ = .pointer (some ⟨b, 112, none⟩)
              | 1 => v_ = .pointer (some ⟨b, 112, none⟩)
              | 2 => v_ = .pointer (some ⟨b, 112, none⟩)
              | 3 => v_ = .pointer (some ⟨b, 116, none⟩)
              | 4 => v_ = .int .i64 1
              | 5 => v_ = .pointer (some ⟨b, 112, none⟩)
              | 6 => v_ = .pointer (some ⟨b, 112, none⟩)
              | 7 => v_ = .pointer (some ⟨b, 112 + 1, none⟩)
              | 8 => v_ = .int .u64 (c (112 + 1))
              | _ => v_ = .int .u64 (c (112 + 1))) fol (by kernel_rfl) ?_ ?_ ?_ ?_
          · exact (h.gset 116 1 (k := .i64) rfl).drew
          · intro k_ v_ w_ w2_ h1 hg
            split at h1 <;> exact h1
          · intro vals
            show wpG _ _ _ _ _ _ 0 (_ :: _) _
            refine wpG_cons (gval (.pointer (some ⟨b, 112, none⟩)) GN.refl fun w_ hJ hd => ?_) ?_
            · exact ⟨by kernel_rfl, by kernel_rfl, rfl⟩
            refine wpG_cons (gval (.pointer (some ⟨b, 112, none⟩)) GN.refl fun w_ hJ hd => ?_) ?_
            · exact ⟨by kernel_rfl, by kernel_rfl, rfl⟩
            refine wpG_cons (gval (.pointer (some ⟨b, 112, none⟩)) GN.refl fun w_ hJ hd => ?_) ?_
            · have e1 : vals 1 = _ := hd 1 (by decide) (by kernel_rfl)
              rw [e1]
              exact ⟨by kernel_rfl, by kernel_rfl, rfl⟩
            refine wpG_cons (gval (.pointer (some ⟨b, 116, none⟩)) GN.refl fun w_ hJ hd => ?_) ?_
            · have e2 : vals 2 = _ := hd 2 (by decide) (by kernel_rfl)
              rw [e2]
              exact ⟨by kernel_rfl, by kernel_rfl, rfl⟩
            refine wpG_cons (gop (Instr.loadAt 3 (.pointer (some ⟨b, 116, none⟩))) (.int .i64 1) GN.refl fun w_ hJ hd => ?_) ?_
            · have e3 : vals 3 = _ := hd 3 (by decide) (by kernel_rfl)
              rw [e3]
              exact ⟨by kernel_rfl, by kernel_rfl, run_ldv hJ.heap (by omega) (by kernel_rfl) rfl (by simp [upd]), rfl⟩
            refine wpG_cons (gval (.pointer (some ⟨b, 112, none⟩)) GN.refl fun w_ hJ hd => ?_) ?_
            · have e0 : vals 0 = _ := hd 0 (by decide) (by kernel_rfl)
              rw [e0]
              exact ⟨by kernel_rfl, by kernel_rfl, rfl⟩
            refine wpG_cons (gval (.pointer (some ⟨b, 112, none⟩)) GN.refl fun w_ hJ hd => ?_) ?_
            · have e5 : vals 5 = _ := hd 5 (by decide) (by kernel_rfl)
              rw [e5]
              exact ⟨by kernel_rfl, by kernel_rfl, rfl⟩
            refine wpG_cons (gval (.pointer (some ⟨b, 112 + 1, none⟩)) GN.refl fun w_ hJ hd => ?_) ?_
            · have e6 : vals 6 = _ := hd 6 (by decide) (by kernel_rfl)
              have e4 : vals 4 = _ := hd 4 (by decide) (by kernel_rfl)
              rw [e6, e4]
              exact ⟨by kernel_rfl, by kernel_rfl, rfl⟩
            refine wpG_cons (gop (Instr.loadAt 22 (.pointer (some ⟨b, 112 + 1, none⟩))) (.int .u64 (c (112 + 1))) GN.refl fun w_ hJ hd => ?_) ?_
            · have e7 : vals 7 = _ := hd 7 (by decide) (by kernel_rfl)
              rw [e7]
              exact ⟨by kernel_rfl, by kernel_rfl, run_ldv hJ.heap (by omega) (by kernel_rfl) rfl (by simp [upd]), rfl⟩
            refine wpG_cons (gval (.int .u64 (c (112 + 1))) GN.refl fun w_ hJ hd => ?_) wpG_nil
            · have e8 : vals 8 = _ := hd 8 (by decide) (by kernel_rfl)
              rw [e8]
              exact ⟨by kernel_rfl, by kernel_rfl, rfl⟩
          · intro vals w_ hJ hf
            have e0 : vals 0 = _ := hf 0 (by decide)
            have e1 : vals 1 = _ := hf 1 (by decide)
            have e2 : vals 2 = _ := hf 2 (by decide)
            have e3 : vals 3 = _ := hf 3 (by decide)
            have e4 : vals 4 = _ := hf 4 (by decide)
            have e5 : vals 5 = _ := hf 5 (by decide)
            have e6 : vals 6 = _ := hf 6 (by decide)
            have e7 : vals 7 = _ := hf 7 (by decide)
            have e8 : vals 8 = _ := hf 8 (by decide)
            have e9 : vals 9 = _ := hf 9 (by decide)
            simp only [fillG, Nat.zero_add, Nat.reduceAdd, e0, e1, e2, e3, e4, e5, e6, e7, e8, e9, Act.put, List.setIfInBounds_toArray, List.set_cons_succ, List.set_cons_zero]
            clear e0 e1 e2 e3 e4 e5 e6 e7 e8 e9 hf
            have h3 := hJ
            clear hJ
            go_wp2_with fail
            refine wp_region_E (fun w_ => Heap w0 w_ (HP.blk b (gl (upd c 116 1)).toArray 78 :: L)) GN (fun k_ v_ w_ => match k_ with
                | 0 => v_ = .pointer (some ⟨b, 112, none⟩)
                | 1 => v_ = .pointer (some ⟨b, 112, none⟩)
                | 2 => v_ = .pointer (some ⟨b, 112, none⟩)
                | 3 => v_ = .pointer (some ⟨b, 116, none⟩)
                | 4 => v_ = .int .i64 1
                | 5 => v_ = .pointer (some ⟨b, 112, none⟩)
                | 6 => v_ = .pointer (some ⟨b, 112, none⟩)
                | _ => v_ = .pointer (some ⟨b, 112 + 1, none⟩)) fol (by kernel_rfl) ?_ ?_ (n := 8) rfl rfl rfl (by kernel_rfl) ?_ ?_
            · exact h3.drew
            · intro k_ v_ w_ w2_ h1 hg
              split at h1 <;> exact h1
            · intro vals
              show wpG _ _ _ _ _ _ 0 (_ :: _) _
              refine wpG_cons (gval (.pointer (some ⟨b, 112, none⟩)) GN.refl fun w_ hJ hd => ?_) ?_
              · exact ⟨by kernel_rfl, by kernel_rfl, rfl⟩
              refine wpG_cons (gval (.pointer (some ⟨b, 112, none⟩)) GN.refl fun w_ hJ hd => ?_) ?_
              · exact ⟨by kernel_rfl, by kernel_rfl, rfl⟩
              refine wpG_cons (gval (.pointer (some ⟨b, 112, none⟩)) GN.refl fun w_ hJ hd => ?_) ?_
              · have e1 : vals 1 = _ := hd 1 (by decide) (by kernel_rfl)
                rw [e1]
                exact ⟨by kernel_rfl, by kernel_rfl, rfl⟩
              refine wpG_cons (gval (.pointer (some ⟨b, 116, none⟩)) GN.refl fun w_ hJ hd => ?_) ?_
              · have e2 : vals 2 = _ := hd 2 (by decide) (by kernel_rfl)
                rw [e2]
                exact ⟨by kernel_rfl, by kernel_rfl, rfl⟩
              refine wpG_cons (gop (Instr.loadAt 3 (.pointer (some ⟨b, 116, none⟩))) (.int .i64 1) GN.refl fun w_ hJ hd => ?_) ?_
              · have e3 : vals 3 = _ := hd 3 (by decide) (by kernel_rfl)
                rw [e3]
                exact ⟨by kernel_rfl, by kernel_rfl, run_ldv hJ.heap (by omega) (by kernel_rfl) rfl (by simp [upd]), rfl⟩
              refine wpG_cons (gval (.pointer (some ⟨b, 112, none⟩)) GN.refl fun w_ hJ hd => ?_) ?_
              · have e0 : vals 0 = _ := hd 0 (by decide) (by kernel_rfl)
                rw [e0]
                exact ⟨by kernel_rfl, by kernel_rfl, rfl⟩
              refine wpG_cons (gval (.pointer (some ⟨b, 112, none⟩)) GN.refl fun w_ hJ hd => ?_) ?_
              · have e5 : vals 5 = _ := hd 5 (by decide) (by kernel_rfl)
                rw [e5]
                exact ⟨by kernel_rfl, by kernel_rfl, rfl⟩
              refine wpG_cons (gval (.pointer (some ⟨b, 112 + 1, none⟩)) GN.refl fun w_ hJ hd => ?_) wpG_nil
              · have e6 : vals 6 = _ := hd 6 (by decide) (by kernel_rfl)
                have e4 : vals 4 = _ := hd 4 (by decide) (by kernel_rfl)
                rw [e6, e4]
                exact ⟨by kernel_rfl, by kernel_rfl, rfl⟩
            · intro vals w_ hJ hf
              have e0 : vals 0 = _ := hf 0 (by decide)
              have e1 : vals 1 = _ := hf 1 (by decide)
              have e2 : vals 2 = _ := hf 2 (by decide)
              have e3 : vals 3 = _ := hf 3 (by decide)
              have e4 : vals 4 = _ := hf 4 (by decide)
              have e5 : vals 5 = _ := hf 5 (by decide)
              have e6 : vals 6 = _ := hf 6 (by decide)
              have e7 : vals 7 = _ := hf 7 (by decide)
              show Oper.wp _ _ (fillG vals 0 (_ :: _ :: _ :: _ :: _ :: _ :: _ :: _ :: []) _) _ _ _
              simp only [fillG, Nat.zero_add, Nat.reduceAdd, e0, e1, e2, e3, e4, e5, e6, e7, Act.put, List.setIfInBounds_toArray, List.set_cons_succ, List.set_cons_zero]
              clear e0 e1 e2 e3 e4 e5 e6 e7 hf
              refine wp_last_skip (w' := w_.setCell ⟨b, 112 + 1, none⟩ (.int .u64 0)) (m := Instr.storeAt 22 (.pointer (some ⟨b, 112 + 1, none⟩)) (.int .u64 0)) (by kernel_rfl) (run_gst hJ.heap (by omega) (by kernel_rfl)) ?_
              show Exit.then _ _ Exit.normal (Act.put ⟨_, _⟩ none _) _
              simp only [Act.put]
              have h5 := hJ.gset (112 + 1) 0 (k := .u64) rfl
              clear hJ h3
              go_wp2
              go_ret
              exact ⟨by simp [nOut, unhide Hrk, unhide Hsz], by
                rw [show nSt c pc size = upd (upd c 116 1) (112 + 1) 0 from by simp [nSt, unhide Hrk, popS, unhide Hsz]]
                exact h5⟩
        · have Hsz : c 116 = 3 := hs
          have c6 := (gcell h.heap (i := 116) (by omega)).1
          rw [show gk 116 = .i64 from rfl, Hsz] at c6
          have Hsz := hide Hsz
          clear hs
          have c6f := (gcell h.heap (i := 116) (by omega)).2
          go_wp2_with fail
          refine wp_region_F (fun w_ => Heap w0 w_ (HP.blk b (gl (upd c 116 2)).toArray 78 :: L)) GN (fun k_ v_ w_ => match k_ with
              | 0 => v_ = .pointer (some ⟨b, 112, none⟩)
              | 1 => v_ = .pointer (some ⟨b, 112, none⟩)
              | 2 => v_ = .pointer (some ⟨b, 112, none⟩)
              | 3 => v_ = .pointer (some ⟨b, 116, none⟩)
              | 4 => v_ = .int .i64 2
              | 5 => v_ = .pointer (some ⟨b, 112, none⟩)
              | 6 => v_ = .pointer (some ⟨b, 112, none⟩)
              | 7 => v_ = .pointer (some ⟨b, 112 + 2, none⟩)
              | 8 => v_ = .int .u64 (c (112 + 2))
              | _ => v_ = .int .u64 (c (112 + 2))) fol (by kernel_rfl) ?_ ?_ ?_ ?_
          · exact (h.gset 116 2 (k := .i64) rfl).drew
          · intro k_ v_ w_ w2_ h1 hg
            split at h1 <;> exact h1
          · intro vals
            show wpG _ _ _ _ _ _ 0 (_ :: _) _
            refine wpG_cons (gval (.pointer (some ⟨b, 112, none⟩)) GN.refl fun w_ hJ hd => ?_) ?_
            · exact ⟨by kernel_rfl, by kernel_rfl, rfl⟩
            refine wpG_cons (gval (.pointer (some ⟨b, 112, none⟩)) GN.refl fun w_ hJ hd => ?_) ?_
            · exact ⟨by kernel_rfl, by kernel_rfl, rfl⟩
            refine wpG_cons (gval (.pointer (some ⟨b, 112, none⟩)) GN.refl fun w_ hJ hd => ?_) ?_
            · have e1 : vals 1 = _ := hd 1 (by decide) (by kernel_rfl)
              rw [e1]
              exact ⟨by kernel_rfl, by kernel_rfl, rfl⟩
            refine wpG_cons (gval (.pointer (some ⟨b, 116, none⟩)) GN.refl fun w_ hJ hd => ?_) ?_
            · have e2 : vals 2 = _ := hd 2 (by decide) (by kernel_rfl)
              rw [e2]
              exact ⟨by kernel_rfl, by kernel_rfl, rfl⟩
            refine wpG_cons (gop (Instr.loadAt 3 (.pointer (some ⟨b, 116, none⟩))) (.int .i64 2) GN.refl fun w_ hJ hd => ?_) ?_
            · have e3 : vals 3 = _ := hd 3 (by decide) (by kernel_rfl)
              rw [e3]
              exact ⟨by kernel_rfl, by kernel_rfl, run_ldv hJ.heap (by omega) (by kernel_rfl) rfl (by simp [upd]), rfl⟩
            refine wpG_cons (gval (.pointer (some ⟨b, 112, none⟩)) GN.refl fun w_ hJ hd => ?_) ?_
            · have e0 : vals 0 = _ := hd 0 (by decide) (by kernel_rfl)
              rw [e0]
              exact ⟨by kernel_rfl, by kernel_rfl, rfl⟩
            refine wpG_cons (gval (.pointer (some ⟨b, 112, none⟩)) GN.refl fun w_ hJ hd => ?_) ?_
            · have e5 : vals 5 = _ := hd 5 (by decide) (by kernel_rfl)
              rw [e5]
              exact ⟨by kernel_rfl, by kernel_rfl, rfl⟩
            refine wpG_cons (gval (.pointer (some ⟨b, 112 + 2, none⟩)) GN.refl fun w_ hJ hd => ?_) ?_
            · have e6 : vals 6 = _ := hd 6 (by decide) (by kernel_rfl)
              have e4 : vals 4 = _ := hd 4 (by decide) (by kernel_rfl)
              rw [e6, e4]
              exact ⟨by kernel_rfl, by kernel_rfl, rfl⟩
            refine wpG_cons (gop (Instr.loadAt 22 (.pointer (some ⟨b, 112 + 2, none⟩))) (.int .u64 (c (112 + 2))) GN.refl fun w_ hJ hd => ?_) ?_
            · have e7 : vals 7 = _ := hd 7 (by decide) (by kernel_rfl)
              rw [e7]
              exact ⟨by kernel_rfl, by kernel_rfl, run_ldv hJ.heap (by omega) (by kernel_rfl) rfl (by simp [upd]), rfl⟩
            refine wpG_cons (gval (.int .u64 (c (112 + 2))) GN.refl fun w_ hJ hd => ?_) wpG_nil
            · have e8 : vals 8 = _ := hd 8 (by decide) (by kernel_rfl)
              rw [e8]
              exact ⟨by kernel_rfl, by kernel_rfl, rfl⟩
          · intro vals w_ hJ hf
            have e0 : vals 0 = _ := hf 0 (by decide)
            have e1 : vals 1 = _ := hf 1 (by decide)
            have e2 : vals 2 = _ := hf 2 (by decide)
            have e3 : vals 3 = _ := hf 3 (by decide)
            have e4 : vals 4 = _ := hf 4 (by decide)
            have e5 : vals 5 = _ := hf 5 (by decide)
            have e6 : vals 6 = _ := hf 6 (by decide)
            have e7 : vals 7 = _ := hf 7 (by decide)
            have e8 : vals 8 = _ := hf 8 (by decide)
            have e9 : vals 9 = _ := hf 9 (by decide)
            simp only [fillG, Nat.zero_add, Nat.reduceAdd, e0, e1, e2, e3, e4, e5, e6, e7, e8, e9, Act.put, List.setIfInBounds_toArray, List.set_cons_succ, List.set_cons_zero]
            clear e0 e1 e2 e3 e4 e5 e6 e7 e8 e9 hf
            have h3 := hJ
            clear hJ
            go_wp2_with fail
            refine wp_region_E (fun w_ => Heap w0 w_ (HP.blk b (gl (upd c 116 2)).toArray 78 :: L)) GN (fun k_ v_ w_ => match k_ with
                | 0 => v_ = .pointer (some ⟨b, 112, none⟩)
                | 1 => v_ = .pointer (some ⟨b, 112, none⟩)
                | 2 => v_ = .pointer (some ⟨b, 112, none⟩)
                | 3 => v_ = .pointer (some ⟨b, 116, none⟩)
                | 4 => v_ = .int .i64 2
                | 5 => v_ = .pointer (some ⟨b, 112, none⟩)
                | 6 => v_ = .pointer (some ⟨b, 112, none⟩)
                | _ => v_ = .pointer (some ⟨b, 112 + 2, none⟩)) fol (by kernel_rfl) ?_ ?_ (n := 8) rfl rfl rfl (by kernel_rfl) ?_ ?_
            · exact h3.drew
            · intro k_ v_ w_ w2_ h1 hg
              split at h1 <;> exact h1
            · intro vals
              show wpG _ _ _ _ _ _ 0 (_ :: _) _
              refine wpG_cons (gval (.pointer (some ⟨b, 112, none⟩)) GN.refl fun w_ hJ hd => ?_) ?_
              · exact ⟨by kernel_rfl, by kernel_rfl, rfl⟩
              refine wpG_cons (gval (.pointer (some ⟨b, 112, none⟩)) GN.refl fun w_ hJ hd => ?_) ?_
              · exact ⟨by kernel_rfl, by kernel_rfl, rfl⟩
              refine wpG_cons (gval (.pointer (some ⟨b, 112, none⟩)) GN.refl fun w_ hJ hd => ?_) ?_
              · have e1 : vals 1 = _ := hd 1 (by decide) (by kernel_rfl)
                rw [e1]
                exact ⟨by kernel_rfl, by kernel_rfl, rfl⟩
              refine wpG_cons (gval (.pointer (some ⟨b, 116, none⟩)) GN.refl fun w_ hJ hd => ?_) ?_
              · have e2 : vals 2 = _ := hd 2 (by decide) (by kernel_rfl)
                rw [e2]
                exact ⟨by kernel_rfl, by kernel_rfl, rfl⟩
              refine wpG_cons (gop (Instr.loadAt 3 (.pointer (some ⟨b, 116, none⟩))) (.int .i64 2) GN.refl fun w_ hJ hd => ?_) ?_
              · have e3 : vals 3 = _ := hd 3 (by decide) (by kernel_rfl)
                rw [e3]
                exact ⟨by kernel_rfl, by kernel_rfl, run_ldv hJ.heap (by omega) (by kernel_rfl) rfl (by simp [upd]), rfl⟩
              refine wpG_cons (gval (.pointer (some ⟨b, 112, none⟩)) GN.refl fun w_ hJ hd => ?_) ?_
              · have e0 : vals 0 = _ := hd 0 (by decide) (by kernel_rfl)
                rw [e0]
                exact ⟨by kernel_rfl, by kernel_rfl, rfl⟩
              refine wpG_cons (gval (.pointer (some ⟨b, 112, none⟩)) GN.refl fun w_ hJ hd => ?_) ?_
              · have e5 : vals 5 = _ := hd 5 (by decide) (by kernel_rfl)
                rw [e5]
                exact ⟨by kernel_rfl, by kernel_rfl, rfl⟩
              refine wpG_cons (gval (.pointer (some ⟨b, 112 + 2, none⟩)) GN.refl fun w_ hJ hd => ?_) wpG_nil
              · have e6 : vals 6 = _ := hd 6 (by decide) (by kernel_rfl)
                have e4 : vals 4 = _ := hd 4 (by decide) (by kernel_rfl)
                rw [e6, e4]
                exact ⟨by kernel_rfl, by kernel_rfl, rfl⟩
            · intro vals w_ hJ hf
              have e0 : vals 0 = _ := hf 0 (by decide)
              have e1 : vals 1 = _ := hf 1 (by decide)
              have e2 : vals 2 = _ := hf 2 (by decide)
              have e3 : vals 3 = _ := hf 3 (by decide)
              have e4 : vals 4 = _ := hf 4 (by decide)
              have e5 : vals 5 = _ := hf 5 (by decide)
              have e6 : vals 6 = _ := hf 6 (by decide)
              have e7 : vals 7 = _ := hf 7 (by decide)
              show Oper.wp _ _ (fillG vals 0 (_ :: _ :: _ :: _ :: _ :: _ :: _ :: _ :: []) _) _ _ _
              simp only [fillG, Nat.zero_add, Nat.reduceAdd, e0, e1, e2, e3, e4, e5, e6, e7, Act.put, List.setIfInBounds_toArray, List.set_cons_succ, List.set_cons_zero]
              clear e0 e1 e2 e3 e4 e5 e6 e7 hf
              refine wp_last_skip (w' := w_.setCell ⟨b, 112 + 2, none⟩ (.int .u64 0)) (m := Instr.storeAt 22 (.pointer (some ⟨b, 112 + 2, none⟩)) (.int .u64 0)) (by kernel_rfl) (run_gst hJ.heap (by omega) (by kernel_rfl)) ?_
              show Exit.then _ _ Exit.normal (Act.put ⟨_, _⟩ none _) _
              simp only [Act.put]
              have h5 := hJ.gset (112 + 2) 0 (k := .u64) rfl
              clear hJ h3
              go_wp2
              go_ret
              exact ⟨by simp [nOut, unhide Hrk, unhide Hsz], by
                rw [show nSt c pc size = upd (upd c 116 2) (112 + 2) 0 from by simp [nSt, unhide Hrk, popS, unhide Hsz]]
                exact h5⟩
        · have Hsz : c 116 = 4 := hs
          have c6 := (gcell h.heap (i := 116) (by omega)).1
          rw [show gk 116 = .i64 from rfl, Hsz] at c6
          have Hsz := hide Hsz
          clear hs
          have c6f := (gcell h.heap (i := 116) (by omega)).2
          go_wp2_with fail
          refine wp_region_F (fun w_ => Heap w0 w_ (HP.blk b (gl (upd c 116 3)).toArray 78 :: L)) GN (fun k_ v_ w_ => match k_ with
              | 0 => v_ = .pointer (some ⟨b, 112, none⟩)
              | 1 => v_ = .pointer (some ⟨b, 112, none⟩)
              | 2 => v_ = .pointer (some ⟨b, 112, none⟩)
              | 3 => v_ = .pointer (some ⟨b, 116, none⟩)
              | 4 => v_ = .int .i64 3
              | 5 => v_ = .pointer (some ⟨b, 112, none⟩)
              | 6 => v_ = .pointer (some ⟨b, 112, none⟩)
              | 7 => v_ = .pointer (some ⟨b, 112 + 3, none⟩)
              | 8 => v_ = .int .u64 (c (112 + 3))
              | _ => v_ = .int .u64 (c (112 + 3))) fol (by kernel_rfl) ?_ ?_ ?_ ?_
          · exact (h.gset 116 3 (k := .i64) rfl).drew
          · intro k_ v_ w_ w2_ h1 hg
            split at h1 <;> exact h1
          · intro vals
            show wpG _ _ _ _ _ _ 0 (_ :: _) _
            refine wpG_cons (gval (.pointer (some ⟨b, 112, none⟩)) GN.refl fun w_ hJ hd => ?_) ?_
            · exact ⟨by kernel_rfl, by kernel_rfl, rfl⟩
            refine wpG_cons (gval (.pointer (some ⟨b, 112, none⟩)) GN.refl fun w_ hJ hd => ?_) ?_
            · exact ⟨by kernel_rfl, by kernel_rfl, rfl⟩
            refine wpG_cons (gval (.pointer (some ⟨b, 112, none⟩)) GN.refl fun w_ hJ hd => ?_) ?_
            · have e1 : vals 1 = _ := hd 1 (by decide) (by kernel_rfl)
              rw [e1]
              exact ⟨by kernel_rfl, by kernel_rfl, rfl⟩
            refine wpG_cons (gval (.pointer (some ⟨b, 116, none⟩)) GN.refl fun w_ hJ hd => ?_) ?_
            · have e2 : vals 2 = _ := hd 2 (by decide) (by kernel_rfl)
              rw [e2]
              exact ⟨by kernel_rfl, by kernel_rfl, rfl⟩
            refine wpG_cons (gop (Instr.loadAt 3 (.pointer (some ⟨b, 116, none⟩))) (.int .i64 3) GN.refl fun w_ hJ hd => ?_) ?_
            · have e3 : vals 3 = _ := hd 3 (by decide) (by kernel_rfl)
              rw [e3]
              exact ⟨by kernel_rfl, by kernel_rfl, run_ldv hJ.heap (by omega) (by kernel_rfl) rfl (by simp [upd]), rfl⟩
            refine wpG_cons (gval (.pointer (some ⟨b, 112, none⟩)) GN.refl fun w_ hJ hd => ?_) ?_
            · have e0 : vals 0 = _ := hd 0 (by decide) (by kernel_rfl)
              rw [e0]
              exact ⟨by kernel_rfl, by kernel_rfl, rfl⟩
            refine wpG_cons (gval (.pointer (some ⟨b, 112, none⟩)) GN.refl fun w_ hJ hd => ?_) ?_
            · have e5 : vals 5 = _ := hd 5 (by decide) (by kernel_rfl)
              rw [e5]
              exact ⟨by kernel_rfl, by kernel_rfl, rfl⟩
            refine wpG_cons (gval (.pointer (some ⟨b, 112 + 3, none⟩)) GN.refl fun w_ hJ hd => ?_) ?_
            · have e6 : vals 6 = _ := hd 6 (by decide) (by kernel_rfl)
              have e4 : vals 4 = _ := hd 4 (by decide) (by kernel_rfl)
              rw [e6, e4]
              exact ⟨by kernel_rfl, by kernel_rfl, rfl⟩
            refine wpG_cons (gop (Instr.loadAt 22 (.pointer (some ⟨b, 112 + 3, none⟩))) (.int .u64 (c (112 + 3))) GN.refl fun w_ hJ hd => ?_) ?_
            · have e7 : vals 7 = _ := hd 7 (by decide) (by kernel_rfl)
              rw [e7]
              exact ⟨by kernel_rfl, by kernel_rfl, run_ldv hJ.heap (by omega) (by kernel_rfl) rfl (by simp [upd]), rfl⟩
            refine wpG_cons (gval (.int .u64 (c (112 + 3))) GN.refl fun w_ hJ hd => ?_) wpG_nil
            · have e8 : vals 8 = _ := hd 8 (by decide) (by kernel_rfl)
              rw [e8]
              exact ⟨by kernel_rfl, by kernel_rfl, rfl⟩
          · intro vals w_ hJ hf
            have e0 : vals 0 = _ := hf 0 (by decide)
            have e1 : vals 1 = _ := hf 1 (by decide)
            have e2 : vals 2 = _ := hf 2 (by decide)
            have e3 : vals 3 = _ := hf 3 (by decide)
            have e4 : vals 4 = _ := hf 4 (by decide)
            have e5 : vals 5 = _ := hf 5 (by decide)
            have e6 : vals 6 = _ := hf 6 (by decide)
            have e7 : vals 7 = _ := hf 7 (by decide)
            have e8 : vals 8 = _ := hf 8 (by decide)
            have e9 : vals 9 = _ := hf 9 (by decide)
            simp only [fillG, Nat.zero_add, Nat.reduceAdd, e0, e1, e2, e3, e4, e5, e6, e7, e8, e9, Act.put, List.setIfInBounds_toArray, List.set_cons_succ, List.set_cons_zero]
            clear e0 e1 e2 e3 e4 e5 e6 e7 e8 e9 hf
            have h3 := hJ
            clear hJ
            go_wp2_with fail
            refine wp_region_E (fun w_ => Heap w0 w_ (HP.blk b (gl (upd c 116 3)).toArray 78 :: L)) GN (fun k_ v_ w_ => match k_ with
                | 0 => v_ = .pointer (some ⟨b, 112, none⟩)
                | 1 => v_ = .pointer (some ⟨b, 112, none⟩)
                | 2 => v_ = .pointer (some ⟨b, 112, none⟩)
                | 3 => v_ = .pointer (some ⟨b, 116, none⟩)
                | 4 => v_ = .int .i64 3
                | 5 => v_ = .pointer (some ⟨b, 112, none⟩)
                | 6 => v_ = .pointer (some ⟨b, 112, none⟩)
                | _ => v_ = .pointer (some ⟨b, 112 + 3, none⟩)) fol (by kernel_rfl) ?_ ?_ (n := 8) rfl rfl rfl (by kernel_rfl) ?_ ?_
            · exact h3.drew
            · intro k_ v_ w_ w2_ h1 hg
              split at h1 <;> exact h1
            · intro vals
              show wpG _ _ _ _ _ _ 0 (_ :: _) _
              refine wpG_cons (gval (.pointer (some ⟨b, 112, none⟩)) GN.refl fun w_ hJ hd => ?_) ?_
              · exact ⟨by kernel_rfl, by kernel_rfl, rfl⟩
              refine wpG_cons (gval (.pointer (some ⟨b, 112, none⟩)) GN.refl fun w_ hJ hd => ?_) ?_
              · exact ⟨by kernel_rfl, by kernel_rfl, rfl⟩
              refine wpG_cons (gval (.pointer (some ⟨b, 112, none⟩)) GN.refl fun w_ hJ hd => ?_) ?_
              · have e1 : vals 1 = _ := hd 1 (by decide) (by kernel_rfl)
                rw [e1]
                exact ⟨by kernel_rfl, by kernel_rfl, rfl⟩
              refine wpG_cons (gval (.pointer (some ⟨b, 116, none⟩)) GN.refl fun w_ hJ hd => ?_) ?_
              · have e2 : vals 2 = _ := hd 2 (by decide) (by kernel_rfl)
                rw [e2]
                exact ⟨by kernel_rfl, by kernel_rfl, rfl⟩
              refine wpG_cons (gop (Instr.loadAt 3 (.pointer (some ⟨b, 116, none⟩))) (.int .i64 3) GN.refl fun w_ hJ hd => ?_) ?_
              · have e3 : vals 3 = _ := hd 3 (by decide) (by kernel_rfl)
                rw [e3]
                exact ⟨by kernel_rfl, by kernel_rfl, run_ldv hJ.heap (by omega) (by kernel_rfl) rfl (by simp [upd]), rfl⟩
              refine wpG_cons (gval (.pointer (some ⟨b, 112, none⟩)) GN.refl fun w_ hJ hd => ?_) ?_
              · have e0 : vals 0 = _ := hd 0 (by decide) (by kernel_rfl)
                rw [e0]
                exact ⟨by kernel_rfl, by kernel_rfl, rfl⟩
              refine wpG_cons (gval (.pointer (some ⟨b, 112, none⟩)) GN.refl fun w_ hJ hd => ?_) ?_
              · have e5 : vals 5 = _ := hd 5 (by decide) (by kernel_rfl)
                rw [e5]
                exact ⟨by kernel_rfl, by kernel_rfl, rfl⟩
              refine wpG_cons (gval (.pointer (some ⟨b, 112 + 3, none⟩)) GN.refl fun w_ hJ hd => ?_) wpG_nil
              · have e6 : vals 6 = _ := hd 6 (by decide) (by kernel_rfl)
                have e4 : vals 4 = _ := hd 4 (by decide) (by kernel_rfl)
                rw [e6, e4]
                exact ⟨by kernel_rfl, by kernel_rfl, rfl⟩
            · intro vals w_ hJ hf
              have e0 : vals 0 = _ := hf 0 (by decide)
              have e1 : vals 1 = _ := hf 1 (by decide)
              have e2 : vals 2 = _ := hf 2 (by decide)
              have e3 : vals 3 = _ := hf 3 (by decide)
              have e4 : vals 4 = _ := hf 4 (by decide)
              have e5 : vals 5 = _ := hf 5 (by decide)
              have e6 : vals 6 = _ := hf 6 (by decide)
              have e7 : vals 7 = _ := hf 7 (by decide)
              show Oper.wp _ _ (fillG vals 0 (_ :: _ :: _ :: _ :: _ :: _ :: _ :: _ :: []) _) _ _ _
              simp only [fillG, Nat.zero_add, Nat.reduceAdd, e0, e1, e2, e3, e4, e5, e6, e7, Act.put, List.setIfInBounds_toArray, List.set_cons_succ, List.set_cons_zero]
              clear e0 e1 e2 e3 e4 e5 e6 e7 hf
              refine wp_last_skip (w' := w_.setCell ⟨b, 112 + 3, none⟩ (.int .u64 0)) (m := Instr.storeAt 22 (.pointer (some ⟨b, 112 + 3, none⟩)) (.int .u64 0)) (by kernel_rfl) (run_gst hJ.heap (by omega) (by kernel_rfl)) ?_
              show Exit.then _ _ Exit.normal (Act.put ⟨_, _⟩ none _) _
              simp only [Act.put]
              have h5 := hJ.gset (112 + 3) 0 (k := .u64) rfl
              clear hJ h3
              go_wp2
              go_ret
              exact ⟨by simp [nOut, unhide Hrk, unhide Hsz], by
                rw [show nSt c pc size = upd (upd c 116 3) (112 + 3) 0 from by simp [nSt, unhide Hrk, popS, unhide Hsz]]
                exact h5⟩
    · have z : (c (rowN pc * 3) == pc) = false := beq_eq_false_iff_ne.2 hpc
      have hrk : rk c pc = 0 := by unfold rk; rw [if_neg hpc]
      have Hrk := hide hrk
      clear hrk
      go_wp2
      go_ret
      exact ⟨by simp [nOut, unhide Hrk], by simp [nSt, unhide Hrk]; exact h⟩
end
end Go.Proofs.YtblbgalpkodibaaDoor
