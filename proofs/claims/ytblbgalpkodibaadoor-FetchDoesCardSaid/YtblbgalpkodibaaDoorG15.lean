/- Layer 18, the reference: Learn. -/
import Derived.Test.YtblbgalpkodibaaDoorG14
namespace Go.Proofs.YtblbgalpkodibaaDoor
open Go.RowKit

theorem hts_one (c : St) : ∀ y ∈ hts c, y.oneCell' = true := by
  intro y hy
  simp only [hts, List.mem_cons, List.mem_nil_iff, or_false] at hy
  rcases hy with rfl | rfl | rfl | rfl | rfl | rfl <;> rfl
theorem lst1t (c : St) (pc tgt : Int) : Hid (∀ i, i < 48 → lSt c pc 1 true tgt i = setRow c (rowN pc) pc tgt 1 i) ∧
    Hid (∀ i, i < 64 → lSt c pc 1 true tgt (48 + i) = if i = ctrN pc (c 117) then min (c (48 + ctrN pc (c 117)) + 1) 3 else c (48 + i)) ∧
    Hid (∀ i, 112 ≤ i → i < 117 → lSt c pc 1 true tgt i = c i) ∧ Hid (lSt c pc 1 true tgt 117 = c 117 * 2 % 64 + 1) := by
  have hr := rowN_lt pc
  have hc := ctrN_lt pc (c 117)
  have e : lSt c pc 1 true tgt = lCtr (setRow c (rowN pc) pc tgt 1) (ctrN pc (c 117)) true := by simp [lSt, lRow]
  rw [e]
  generalize ctrN pc (c 117) = K at *
  have ho : ∀ i, 48 ≤ i → setRow c (rowN pc) pc tgt 1 i = c i := fun i hi => setRow_out i hi hr
  generalize setRow c (rowN pc) pc tgt 1 = d at *
  unfold Hid lCtr upd
  refine ⟨fun i hi => ?_, fun i hi => ?_, fun i h1 h2 => ?_, ?_⟩
  · rw [if_pos rfl, if_neg (by omega), if_neg (by omega), if_neg (by omega)]
  · rw [if_pos rfl, if_neg (by omega)]
    by_cases q : i = K
    · subst q
      rw [if_pos rfl, if_pos rfl, ho _ (by omega)]
    · rw [if_neg (by omega), if_neg (by omega), if_neg q, ho _ (by omega)]
  · rw [if_pos rfl, if_neg (by omega), if_neg (by omega), if_neg (by omega), ho _ (by omega)]
  · rw [if_pos rfl, if_pos rfl, ho _ (by omega)]
theorem lst1f (c : St) (pc tgt : Int) (hct : 0 ≤ c (48 + ctrN pc (c 117))) : Hid (∀ i, i < 48 → lSt c pc 1 false tgt i = c i) ∧
    Hid (∀ i, i < 64 → lSt c pc 1 false tgt (48 + i) = if i = ctrN pc (c 117) then max (c (48 + ctrN pc (c 117)) - 1) 0 else c (48 + i)) ∧
    Hid (∀ i, 112 ≤ i → i < 117 → lSt c pc 1 false tgt i = c i) ∧ Hid (lSt c pc 1 false tgt 117 = c 117 * 2 % 64 + 0) := by
  have hc := ctrN_lt pc (c 117)
  have e : lSt c pc 1 false tgt = lCtr c (ctrN pc (c 117)) false := by simp [lSt, lRow]
  rw [e]
  generalize ctrN pc (c 117) = K at *
  unfold Hid lCtr upd
  by_cases q0 : 0 < c (48 + K)
  · refine ⟨fun i hi => ?_, fun i hi => ?_, fun i h1 h2 => ?_, ?_⟩
    · rw [if_neg (by decide), if_pos q0, if_neg (by omega), if_neg (by omega)]
    · rw [if_neg (by decide), if_pos q0]
      by_cases q : i = K
      · subst q
        rw [if_pos rfl, if_pos rfl]; omega
      · rw [if_neg (by omega), if_neg (by omega), if_neg q]
    · rw [if_neg (by decide), if_pos q0, if_neg (by omega), if_neg (by omega)]
    · rw [if_neg (by decide), if_pos q0, if_neg (by omega), if_pos rfl]; omega
  · refine ⟨fun i hi => ?_, fun i hi => ?_, fun i h1 h2 => ?_, ?_⟩
    · rw [if_neg (by decide), if_neg q0, if_neg (by omega)]
    · rw [if_neg (by decide), if_neg q0, if_neg (by omega)]
      by_cases q : i = K
      · subst q
        rw [if_pos rfl]; omega
      · rw [if_neg q]
    · rw [if_neg (by decide), if_neg q0, if_neg (by omega)]
    · rw [if_neg (by decide), if_neg q0, if_pos rfl]; omega
section
variable {w0 w : World} {L : List HP} {b g1 o1 c1 g2 o2 c2 c3 g4 o4 c4 : Nat} {A3 : Option Addr} {c : St}
set_option maxRecDepth 100000 in
set_option maxHeartbeats 2000000 in
theorem learnR_k (h : Heap w0 w (HP.blk b #[.slice (some ⟨g1, o1, none⟩) 16 c1, .slice (some ⟨g2, o2, none⟩) 64 c2, .slice A3 (c 116).toNat c3, .slice (some ⟨g4, o4, none⟩) 6 c4] 87 :: HP.slw (.slice (some ⟨g1, o1, none⟩) 16 c1) 3 16 (rws c) :: HP.slw (.slice (some ⟨g2, o2, none⟩) 64 c2) 1 64 (cts c) :: HP.slw (.slice A3 (c 116).toNat c3) 1 (c 116).toNat (sks c) :: HP.sl (.slice (some ⟨g4, o4, none⟩) 6 c4) 1 6 (hts c) :: L)) (hI : GI c) (pc kind : Int) (taken : Bool) (tgt : Int) (p0 : 0 ≤ pc) (p1 : pc < 18446744073709551616) (t0 : 0 ≤ tgt) (t1 : tgt < 18446744073709551616) :
    Calls Tryd.prog 27 #[.pointer (some ⟨b, 0, none⟩), .int .u64 pc, .int .i64 kind, .bool taken, .int .u64 tgt] w fun r w' => r = .returned (.tuple #[]) ∧ Heap w0 w' (HP.rg b (lSt c pc kind taken tgt) :: L) := by
  have hlt := lt_of_heap' h.heap
  have hr := rowN_lt pc
  have hh := hI.hist
  obtain ⟨i0, hi, hz0, hz1, hz2⟩ := info_parts info3
  go_enter Tryd.func27, Tryd.ntmps27
  by_cases q1 : kind < 1
  · have z1 : decide (kind < 1) = true := decide_eq_true q1
    have hst : lSt c pc kind taken tgt = c := by unfold lSt; rw [if_pos (.inl q1)]
    go_wp2
    try rw [hst]
    exact bodyPost_ret (v := .tuple #[]) (by simp [results, Tryd.results27, go_sem]) rfl ⟨rfl, Heap.rgc hI h⟩
  · have z1 : decide (kind < 1) = false := decide_eq_false q1
    by_cases q4 : 4 < kind
    · have z4 : decide (4 < kind) = true := decide_eq_true q4
      have hst : lSt c pc kind taken tgt = c := by unfold lSt; rw [if_pos (.inr q4)]
      go_wp2
      try rw [hst]
      exact bodyPost_ret (v := .tuple #[]) (by simp [results, Tryd.results27, go_sem]) rfl ⟨rfl, Heap.rgc hI h⟩
    · have z4 : decide (4 < kind) = false := decide_eq_false q4
      by_cases q : 1 < kind
      · have z : decide (1 < kind) = true := decide_eq_true q
        have hst : lSt c pc kind taken tgt = setRow c (rowN pc) pc tgt kind := by unfold lSt lRow; rw [if_neg (by omega), if_pos (by omega), if_pos (.inr (by omega))]
        cases taken with
        | true =>
          go_wp2
          refine wp_region_E (fun w_ => Heap w0 w_ (HP.blk b #[.slice (some ⟨g1, o1, none⟩) 16 c1, .slice (some ⟨g2, o2, none⟩) 64 c2, .slice A3 (c 116).toNat c3, .slice (some ⟨g4, o4, none⟩) 6 c4] 87 :: HP.slw (.slice (some ⟨g1, o1, none⟩) 16 c1) 3 16 (rws c) :: HP.slw (.slice (some ⟨g2, o2, none⟩) 64 c2) 1 64 (cts c) :: HP.slw (.slice A3 (c 116).toNat c3) 1 (c 116).toNat (sks c) :: HP.sl (.slice (some ⟨g4, o4, none⟩) 6 c4) 1 6 (hts c) :: L)) GN (fun k_ v_ w_ => match k_ with
              | 0 => v_ = .pointer (some ⟨b, 0, none⟩)
              | 1 => v_ = .pointer (some ⟨b, 0, none⟩)
              | 2 => v_ = .pointer (some ⟨b, 0, none⟩)
              | 3 => v_ = .slice (some ⟨g1, o1, none⟩) 16 c1
              | 4 => v_ = .int .u64 pc
              | 5 => v_ = .int .i64 (rowN pc : Nat)
              | 6 => v_ = .int .u64 pc
              | 7 => v_ = .int .u64 tgt
              | 8 => v_ = .int .i64 kind
              | 9 => v_ = .agg #[.int .u64 pc, .int .u64 tgt, .int .i64 kind]
              | _ => v_ = .pointer (some ⟨g1, o1 + rowN pc * 3, none⟩)) fol (by kernel_rfl) ?_ ?_ (n := 11) rfl rfl rfl (by kernel_rfl) ?_ ?_
          · exact h.drew
          · intro k_ v_ w_ w2_ h1 hg
            split at h1 <;> exact h1
          · intro vals
            show wpG _ _ _ _ _ _ 0 (_ :: _) _
            refine wpG_cons (gval (.pointer (some ⟨b, 0, none⟩)) GN.refl fun w_ hJ hd => ?_) ?_
            · exact ⟨by kernel_rfl, by kernel_rfl, rfl⟩
            refine wpG_cons (gval (.pointer (some ⟨b, 0, none⟩)) GN.refl fun w_ hJ hd => ?_) ?_
            · have e0 : vals 0 = _ := hd 0 (by decide) (by kernel_rfl)
              rw [e0]
              exact ⟨by kernel_rfl, by kernel_rfl, rfl⟩
            refine wpG_cons (gval (.pointer (some ⟨b, 0, none⟩)) GN.refl fun w_ hJ hd => ?_) ?_
            · have e1 : vals 1 = _ := hd 1 (by decide) (by kernel_rfl)
              rw [e1]
              exact ⟨by kernel_rfl, by kernel_rfl, rfl⟩
            refine wpG_cons (gop (Instr.loadAt 83 (.pointer (some ⟨b, 0, none⟩))) (.slice (some ⟨g1, o1, none⟩) 16 c1) GN.refl fun w_ hJ hd => ?_) ?_
            · have e2 : vals 2 = _ := hd 2 (by decide) (by kernel_rfl)
              rw [e2]
              exact ⟨by kernel_rfl, by kernel_rfl, run_load1 (by kernel_rfl) (cells4f hJ.heap).1, rfl⟩
            refine wpG_cons (gval (.int .u64 pc) GN.refl fun w_ hJ hd => ?_) ?_
            · exact ⟨by kernel_rfl, by kernel_rfl, rfl⟩
            refine wpG_cons (gcall 42 #[.int .u64 pc] fun w_ hJ hd => ?_) ?_
            · have e4 : vals 4 = _ := hd 4 (by decide) (by kernel_rfl)
              rw [e4]
              exact ⟨by kernel_rfl, by kernel_rfl, (rowR_any pc p0 p1 w_).mono fun e w' ⟨hr, hw⟩ => ⟨_, hr, by rw [hw]; exact hJ, by rw [hw]; exact GN.refl _, rfl⟩⟩
            refine wpG_cons (gval (.int .u64 pc) GN.refl fun w_ hJ hd => ?_) ?_
            · exact ⟨by kernel_rfl, by kernel_rfl, rfl⟩
            refine wpG_cons (gval (.int .u64 tgt) GN.refl fun w_ hJ hd => ?_) ?_
            · exact ⟨by kernel_rfl, by kernel_rfl, rfl⟩
            refine wpG_cons (gval (.int .i64 kind) GN.refl fun w_ hJ hd => ?_) ?_
            · exact ⟨by kernel_rfl, by kernel_rfl, rfl⟩
            refine wpG_cons (gval (.agg #[.int .u64 pc, .int .u64 tgt, .int .i64 kind]) GN.refl fun w_ hJ hd => ?_) ?_
            · have e6 : vals 6 = _ := hd 6 (by decide) (by kernel_rfl)
              have e7 : vals 7 = _ := hd 7 (by decide) (by kernel_rfl)
              have e8 : vals 8 = _ := hd 8 (by decide) (by kernel_rfl)
              rw [e6, e7, e8]
              exact ⟨by kernel_rfl, by kernel_rfl, rfl⟩
            refine wpG_cons (gop (Instr.indexAt 83 (.slice (some ⟨g1, o1, none⟩) 16 c1) (.int .i64 (rowN pc : Nat))) (.pointer (some ⟨g1, o1 + rowN pc * 3, none⟩)) GN.refl fun w_ hJ hd => ?_) wpG_nil
            · have e3 : vals 3 = _ := hd 3 (by decide) (by kernel_rfl)
              have e5 : vals 5 = _ := hd 5 (by decide) (by kernel_rfl)
              rw [e3, e5]
              exact ⟨by kernel_rfl, by kernel_rfl, run_ixat 83 96 3 Tryd.underlying83 (by kernel_rfl) _ _ _ _ _ (rowN_lt pc) w_, rfl⟩
          · intro vals w_ hJ hf
            have e0 : vals 0 = _ := hf 0 (by decide)
            have e1 : vals 1 = _ := hf 1 (by decide)
            have e2 : vals 2 = _ := hf 2 (by decide)
            have e3 : vals 3 = _ := hf 3 (by decide)
            have e4 : vals 4 = _ := hf 4 (by decide)
            have e5 : vals 5 = _ := hf 5 (by decide)
            have e6 : vals 6 = _ := hf 6 (by decide)
            have e7 : vals 7 = _ := hf 7 (by decide)
            have e8 : vals 8 = _ := hf 8 (by decide)
            have e9 : vals 9 = _ := hf 9 (by decide)
            have e10 : vals 10 = _ := hf 10 (by decide)
            show Oper.wp _ _ (fillG vals 0 (_ :: _ :: _ :: _ :: _ :: _ :: _ :: _ :: _ :: _ :: _ :: []) _) _ _ _
            simp only [fillG, Nat.zero_add, Nat.reduceAdd, e0, e1, e2, e3, e4, e5, e6, e7, e8, e9, e10, Act.put, List.setIfInBounds_toArray, List.set_cons_succ, List.set_cons_zero]
            clear e0 e1 e2 e3 e4 e5 e6 e7 e8 e9 e10 hf
            have hth : w_.there g1 (o1 + rowN pc * 3) 3 := fun i hi => by
              obtain ⟨_, e1, e2⟩ := hJ.f2.slw.at_ (j := rowN pc * 3 + i) (by omega)
              rw [← Nat.add_assoc] at e1 e2
              exact ⟨by rw [e1, List.getElem?_eq_getElem (by rw [rws_len]; omega)]; rfl, e2⟩
            refine wp_last_skip (w' := w_.setCells g1 (o1 + rowN pc * 3) [.int .u64 pc, .int .u64 tgt, .int .i64 kind]) (m := Instr.storeAt 96 (.pointer (some ⟨g1, o1 + rowN pc * 3, none⟩)) (.agg #[.int .u64 pc, .int .u64 tgt, .int .i64 kind])) (by kernel_rfl) (run_storeAt_mid w_ g1 (o1 + rowN pc * 3) 96 #[.int .u64 pc, .int .u64 tgt, .int .i64 kind] hth (by kernel_rfl) (by kernel_rfl)) ?_
            first | show Exit.then _ _ Exit.normal (Act.put ⟨_, _⟩ none _) _ | show Exit.inBlock _ _ Exit.normal (Act.put ⟨_, _⟩ none _) _
            simp only [Act.put]
            have hW := (hJ.f2.writes [.int .u64 pc, .int .u64 tgt, .int .i64 kind] (j := rowN pc * 3) (by show rowN pc * 3 + 3 ≤ 16 * 3; omega)).f2
            rw [rws_row c hr] at hW
            generalize w_.setCells g1 (o1 + rowN pc * 3) [.int .u64 pc, .int .u64 tgt, .int .i64 kind] = w4 at *
            clear hJ hth h

            go_wp2
            refine bodyPost_ret (v := .tuple #[]) (by simp [results, Tryd.results27, go_sem]) rfl ⟨rfl, ?_⟩
            try rw [hst]
            have hd := hI.setRow hr p0 p1 t0 t1 (show 0 ≤ kind by omega) (show kind ≤ 4 by omega)
            exact rg_mk hd rfl (cts_congr fun i hi => (setRow_out _ (by omega) hr).symm) (setRow_out _ (by omega) hr).symm (sks_congr hI fun i h1 h2 => (setRow_out _ (by omega) hr).symm) (hts_congr (setRow_out _ (by omega) hr).symm) hW
        | false =>
          go_wp2
          refine wp_region_E (fun w_ => Heap w0 w_ (HP.blk b #[.slice (some ⟨g1, o1, none⟩) 16 c1, .slice (some ⟨g2, o2, none⟩) 64 c2, .slice A3 (c 116).toNat c3, .slice (some ⟨g4, o4, none⟩) 6 c4] 87 :: HP.slw (.slice (some ⟨g1, o1, none⟩) 16 c1) 3 16 (rws c) :: HP.slw (.slice (some ⟨g2, o2, none⟩) 64 c2) 1 64 (cts c) :: HP.slw (.slice A3 (c 116).toNat c3) 1 (c 116).toNat (sks c) :: HP.sl (.slice (some ⟨g4, o4, none⟩) 6 c4) 1 6 (hts c) :: L)) GN (fun k_ v_ w_ => match k_ with
              | 0 => v_ = .pointer (some ⟨b, 0, none⟩)
              | 1 => v_ = .pointer (some ⟨b, 0, none⟩)
              | 2 => v_ = .pointer (some ⟨b, 0, none⟩)
              | 3 => v_ = .slice (some ⟨g1, o1, none⟩) 16 c1
              | 4 => v_ = .int .u64 pc
              | 5 => v_ = .int .i64 (rowN pc : Nat)
              | 6 => v_ = .int .u64 pc
              | 7 => v_ = .int .u64 tgt
              | 8 => v_ = .int .i64 kind
              | 9 => v_ = .agg #[.int .u64 pc, .int .u64 tgt, .int .i64 kind]
              | _ => v_ = .pointer (some ⟨g1, o1 + rowN pc * 3, none⟩)) fol (by kernel_rfl) ?_ ?_ (n := 11) rfl rfl rfl (by kernel_rfl) ?_ ?_
          · exact h.drew
          · intro k_ v_ w_ w2_ h1 hg
            split at h1 <;> exact h1
          · intro vals
            show wpG _ _ _ _ _ _ 0 (_ :: _) _
            refine wpG_cons (gval (.pointer (some ⟨b, 0, none⟩)) GN.refl fun w_ hJ hd => ?_) ?_
            · exact ⟨by kernel_rfl, by kernel_rfl, rfl⟩
            refine wpG_cons (gval (.pointer (some ⟨b, 0, none⟩)) GN.refl fun w_ hJ hd => ?_) ?_
            · have e0 : vals 0 = _ := hd 0 (by decide) (by kernel_rfl)
              rw [e0]
              exact ⟨by kernel_rfl, by kernel_rfl, rfl⟩
            refine wpG_cons (gval (.pointer (some ⟨b, 0, none⟩)) GN.refl fun w_ hJ hd => ?_) ?_
            · have e1 : vals 1 = _ := hd 1 (by decide) (by kernel_rfl)
              rw [e1]
              exact ⟨by kernel_rfl, by kernel_rfl, rfl⟩
            refine wpG_cons (gop (Instr.loadAt 83 (.pointer (some ⟨b, 0, none⟩))) (.slice (some ⟨g1, o1, none⟩) 16 c1) GN.refl fun w_ hJ hd => ?_) ?_
            · have e2 : vals 2 = _ := hd 2 (by decide) (by kernel_rfl)
              rw [e2]
              exact ⟨by kernel_rfl, by kernel_rfl, run_load1 (by kernel_rfl) (cells4f hJ.heap).1, rfl⟩
            refine wpG_cons (gval (.int .u64 pc) GN.refl fun w_ hJ hd => ?_) ?_
            · exact ⟨by kernel_rfl, by kernel_rfl, rfl⟩
            refine wpG_cons (gcall 42 #[.int .u64 pc] fun w_ hJ hd => ?_) ?_
            · have e4 : vals 4 = _ := hd 4 (by decide) (by kernel_rfl)
              rw [e4]
              exact ⟨by kernel_rfl, by kernel_rfl, (rowR_any pc p0 p1 w_).mono fun e w' ⟨hr, hw⟩ => ⟨_, hr, by rw [hw]; exact hJ, by rw [hw]; exact GN.refl _, rfl⟩⟩
            refine wpG_cons (gval (.int .u64 pc) GN.refl fun w_ hJ hd => ?_) ?_
            · exact ⟨by kernel_rfl, by kernel_rfl, rfl⟩
            refine wpG_cons (gval (.int .u64 tgt) GN.refl fun w_ hJ hd => ?_) ?_
            · exact ⟨by kernel_rfl, by kernel_rfl, rfl⟩
            refine wpG_cons (gval (.int .i64 kind) GN.refl fun w_ hJ hd => ?_) ?_
            · exact ⟨by kernel_rfl, by kernel_rfl, rfl⟩
            refine wpG_cons (gval (.agg #[.int .u64 pc, .int .u64 tgt, .int .i64 kind]) GN.refl fun w_ hJ hd => ?_) ?_
            · have e6 : vals 6 = _ := hd 6 (by decide) (by kernel_rfl)
              have e7 : vals 7 = _ := hd 7 (by decide) (by kernel_rfl)
              have e8 : vals 8 = _ := hd 8 (by decide) (by kernel_rfl)
              rw [e6, e7, e8]
              exact ⟨by kernel_rfl, by kernel_rfl, rfl⟩
            refine wpG_cons (gop (Instr.indexAt 83 (.slice (some ⟨g1, o1, none⟩) 16 c1) (.int .i64 (rowN pc : Nat))) (.pointer (some ⟨g1, o1 + rowN pc * 3, none⟩)) GN.refl fun w_ hJ hd => ?_) wpG_nil
            · have e3 : vals 3 = _ := hd 3 (by decide) (by kernel_rfl)
              have e5 : vals 5 = _ := hd 5 (by decide) (by kernel_rfl)
              rw [e3, e5]
              exact ⟨by kernel_rfl, by kernel_rfl, run_ixat 83 96 3 Tryd.underlying83 (by kernel_rfl) _ _ _ _ _ (rowN_lt pc) w_, rfl⟩
          · intro vals w_ hJ hf
            have e0 : vals 0 = _ := hf 0 (by decide)
            have e1 : vals 1 = _ := hf 1 (by decide)
            have e2 : vals 2 = _ := hf 2 (by decide)
            have e3 : vals 3 = _ := hf 3 (by decide)
            have e4 : vals 4 = _ := hf 4 (by decide)
            have e5 : vals 5 = _ := hf 5 (by decide)
            have e6 : vals 6 = _ := hf 6 (by decide)
            have e7 : vals 7 = _ := hf 7 (by decide)
            have e8 : vals 8 = _ := hf 8 (by decide)
            have e9 : vals 9 = _ := hf 9 (by decide)
            have e10 : vals 10 = _ := hf 10 (by decide)
            show Oper.wp _ _ (fillG vals 0 (_ :: _ :: _ :: _ :: _ :: _ :: _ :: _ :: _ :: _ :: _ :: []) _) _ _ _
            simp only [fillG, Nat.zero_add, Nat.reduceAdd, e0, e1, e2, e3, e4, e5, e6, e7, e8, e9, e10, Act.put, List.setIfInBounds_toArray, List.set_cons_succ, List.set_cons_zero]
            clear e0 e1 e2 e3 e4 e5 e6 e7 e8 e9 e10 hf
            have hth : w_.there g1 (o1 + rowN pc * 3) 3 := fun i hi => by
              obtain ⟨_, e1, e2⟩ := hJ.f2.slw.at_ (j := rowN pc * 3 + i) (by omega)
              rw [← Nat.add_assoc] at e1 e2
              exact ⟨by rw [e1, List.getElem?_eq_getElem (by rw [rws_len]; omega)]; rfl, e2⟩
            refine wp_last_skip (w' := w_.setCells g1 (o1 + rowN pc * 3) [.int .u64 pc, .int .u64 tgt, .int .i64 kind]) (m := Instr.storeAt 96 (.pointer (some ⟨g1, o1 + rowN pc * 3, none⟩)) (.agg #[.int .u64 pc, .int .u64 tgt, .int .i64 kind])) (by kernel_rfl) (run_storeAt_mid w_ g1 (o1 + rowN pc * 3) 96 #[.int .u64 pc, .int .u64 tgt, .int .i64 kind] hth (by kernel_rfl) (by kernel_rfl)) ?_
            first | show Exit.then _ _ Exit.normal (Act.put ⟨_, _⟩ none _) _ | show Exit.inBlock _ _ Exit.normal (Act.put ⟨_, _⟩ none _) _
            simp only [Act.put]
            have hW := (hJ.f2.writes [.int .u64 pc, .int .u64 tgt, .int .i64 kind] (j := rowN pc * 3) (by show rowN pc * 3 + 3 ≤ 16 * 3; omega)).f2
            rw [rws_row c hr] at hW
            generalize w_.setCells g1 (o1 + rowN pc * 3) [.int .u64 pc, .int .u64 tgt, .int .i64 kind] = w4 at *
            clear hJ hth h

            go_wp2
            refine bodyPost_ret (v := .tuple #[]) (by simp [results, Tryd.results27, go_sem]) rfl ⟨rfl, ?_⟩
            try rw [hst]
            have hd := hI.setRow hr p0 p1 t0 t1 (show 0 ≤ kind by omega) (show kind ≤ 4 by omega)
            exact rg_mk hd rfl (cts_congr fun i hi => (setRow_out _ (by omega) hr).symm) (setRow_out _ (by omega) hr).symm (sks_congr hI fun i h1 h2 => (setRow_out _ (by omega) hr).symm) (hts_congr (setRow_out _ (by omega) hr).symm) hW
      · obtain rfl : kind = 1 := by omega
        have hc := ctrN_lt pc (c 117)
        have hct := hI.ctr _ hc
        have hc4 := (h.f5.sl).len
        have hc4 : 6 ≤ c4 := by obtain ⟨_, _, e, hle⟩ := h.f5.sl.parts; injection e with _ _ e3; omega
        cases taken with
        | true =>
          have HD := lst1t c pc tgt
          go_wp2
          refine wp_region_E (fun w_ => Heap w0 w_ (HP.blk b #[.slice (some ⟨g1, o1, none⟩) 16 c1, .slice (some ⟨g2, o2, none⟩) 64 c2, .slice A3 (c 116).toNat c3, .slice (some ⟨g4, o4, none⟩) 6 c4] 87 :: HP.slw (.slice (some ⟨g1, o1, none⟩) 16 c1) 3 16 (rws c) :: HP.slw (.slice (some ⟨g2, o2, none⟩) 64 c2) 1 64 (cts c) :: HP.slw (.slice A3 (c 116).toNat c3) 1 (c 116).toNat (sks c) :: HP.sl (.slice (some ⟨g4, o4, none⟩) 6 c4) 1 6 (hts c) :: L)) GN (fun k_ v_ w_ => match k_ with
              | 0 => v_ = .pointer (some ⟨b, 0, none⟩)
              | 1 => v_ = .pointer (some ⟨b, 0, none⟩)
              | 2 => v_ = .pointer (some ⟨b, 0, none⟩)
              | 3 => v_ = .slice (some ⟨g1, o1, none⟩) 16 c1
              | 4 => v_ = .int .u64 pc
              | 5 => v_ = .int .i64 (rowN pc : Nat)
              | 6 => v_ = .int .u64 pc
              | 7 => v_ = .int .u64 tgt
              | 8 => v_ = .int .i64 1
              | 9 => v_ = .agg #[.int .u64 pc, .int .u64 tgt, .int .i64 1]
              | _ => v_ = .pointer (some ⟨g1, o1 + rowN pc * 3, none⟩)) fol (by kernel_rfl) ?_ ?_ (n := 11) rfl rfl rfl (by kernel_rfl) ?_ ?_
          · exact h.drew
          · intro k_ v_ w_ w2_ h1 hg
            split at h1 <;> exact h1
          · intro vals
            show wpG _ _ _ _ _ _ 0 (_ :: _) _
            refine wpG_cons (gval (.pointer (some ⟨b, 0, none⟩)) GN.refl fun w_ hJ hd => ?_) ?_
            · exact ⟨by kernel_rfl, by kernel_rfl, rfl⟩
            refine wpG_cons (gval (.pointer (some ⟨b, 0, none⟩)) GN.refl fun w_ hJ hd => ?_) ?_
            · have e0 : vals 0 = _ := hd 0 (by decide) (by kernel_rfl)
              rw [e0]
              exact ⟨by kernel_rfl, by kernel_rfl, rfl⟩
            refine wpG_cons (gval (.pointer (some ⟨b, 0, none⟩)) GN.refl fun w_ hJ hd => ?_) ?_
            · have e1 : vals 1 = _ := hd 1 (by decide) (by kernel_rfl)
              rw [e1]
              exact ⟨by kernel_rfl, by kernel_rfl, rfl⟩
            refine wpG_cons (gop (Instr.loadAt 83 (.pointer (some ⟨b, 0, none⟩))) (.slice (some ⟨g1, o1, none⟩) 16 c1) GN.refl fun w_ hJ hd => ?_) ?_
            · have e2 : vals 2 = _ := hd 2 (by decide) (by kernel_rfl)
              rw [e2]
              exact ⟨by kernel_rfl, by kernel_rfl, run_load1 (by kernel_rfl) (cells4f hJ.heap).1, rfl⟩
            refine wpG_cons (gval (.int .u64 pc) GN.refl fun w_ hJ hd => ?_) ?_
            · exact ⟨by kernel_rfl, by kernel_rfl, rfl⟩
            refine wpG_cons (gcall 42 #[.int .u64 pc] fun w_ hJ hd => ?_) ?_
            · have e4 : vals 4 = _ := hd 4 (by decide) (by kernel_rfl)
              rw [e4]
              exact ⟨by kernel_rfl, by kernel_rfl, (rowR_any pc p0 p1 w_).mono fun e w' ⟨hr, hw⟩ => ⟨_, hr, by rw [hw]; exact hJ, by rw [hw]; exact GN.refl _, rfl⟩⟩
            refine wpG_cons (gval (.int .u64 pc) GN.refl fun w_ hJ hd => ?_) ?_
            · exact ⟨by kernel_rfl, by kernel_rfl, rfl⟩
            refine wpG_cons (gval (.int .u64 tgt) GN.refl fun w_ hJ hd => ?_) ?_
            · exact ⟨by kernel_rfl, by kernel_rfl, rfl⟩
            refine wpG_cons (gval (.int .i64 1) GN.refl fun w_ hJ hd => ?_) ?_
            · exact ⟨by kernel_rfl, by kernel_rfl, rfl⟩
            refine wpG_cons (gval (.agg #[.int .u64 pc, .int .u64 tgt, .int .i64 1]) GN.refl fun w_ hJ hd => ?_) ?_
            · have e6 : vals 6 = _ := hd 6 (by decide) (by kernel_rfl)
              have e7 : vals 7 = _ := hd 7 (by decide) (by kernel_rfl)
              have e8 : vals 8 = _ := hd 8 (by decide) (by kernel_rfl)
              rw [e6, e7, e8]
              exact ⟨by kernel_rfl, by kernel_rfl, rfl⟩
            refine wpG_cons (gop (Instr.indexAt 83 (.slice (some ⟨g1, o1, none⟩) 16 c1) (.int .i64 (rowN pc : Nat))) (.pointer (some ⟨g1, o1 + rowN pc * 3, none⟩)) GN.refl fun w_ hJ hd => ?_) wpG_nil
            · have e3 : vals 3 = _ := hd 3 (by decide) (by kernel_rfl)
              have e5 : vals 5 = _ := hd 5 (by decide) (by kernel_rfl)
              rw [e3, e5]
              exact ⟨by kernel_rfl, by kernel_rfl, run_ixat 83 96 3 Tryd.underlying83 (by kernel_rfl) _ _ _ _ _ (rowN_lt pc) w_, rfl⟩
          · intro vals w_ hJ hf
            have e0 : vals 0 = _ := hf 0 (by decide)
            have e1 : vals 1 = _ := hf 1 (by decide)
            have e2 : vals 2 = _ := hf 2 (by decide)
            have e3 : vals 3 = _ := hf 3 (by decide)
            have e4 : vals 4 = _ := hf 4 (by decide)
            have e5 : vals 5 = _ := hf 5 (by decide)
            have e6 : vals 6 = _ := hf 6 (by decide)
            have e7 : vals 7 = _ := hf 7 (by decide)
            have e8 : vals 8 = _ := hf 8 (by decide)
            have e9 : vals 9 = _ := hf 9 (by decide)
            have e10 : vals 10 = _ := hf 10 (by decide)
            show Oper.wp _ _ (fillG vals 0 (_ :: _ :: _ :: _ :: _ :: _ :: _ :: _ :: _ :: _ :: _ :: []) _) _ _ _
            simp only [fillG, Nat.zero_add, Nat.reduceAdd, e0, e1, e2, e3, e4, e5, e6, e7, e8, e9, e10, Act.put, List.setIfInBounds_toArray, List.set_cons_succ, List.set_cons_zero]
            clear e0 e1 e2 e3 e4 e5 e6 e7 e8 e9 e10 hf
            have hth : w_.there g1 (o1 + rowN pc * 3) 3 := fun i hi => by
              obtain ⟨_, e1, e2⟩ := hJ.f2.slw.at_ (j := rowN pc * 3 + i) (by omega)
              rw [← Nat.add_assoc] at e1 e2
              exact ⟨by rw [e1, List.getElem?_eq_getElem (by rw [rws_len]; omega)]; rfl, e2⟩
            refine wp_last_skip (w' := w_.setCells g1 (o1 + rowN pc * 3) [.int .u64 pc, .int .u64 tgt, .int .i64 1]) (m := Instr.storeAt 96 (.pointer (some ⟨g1, o1 + rowN pc * 3, none⟩)) (.agg #[.int .u64 pc, .int .u64 tgt, .int .i64 1])) (by kernel_rfl) (run_storeAt_mid w_ g1 (o1 + rowN pc * 3) 96 #[.int .u64 pc, .int .u64 tgt, .int .i64 1] hth (by kernel_rfl) (by kernel_rfl)) ?_
            first | show Exit.then _ _ Exit.normal (Act.put ⟨_, _⟩ none _) _ | show Exit.inBlock _ _ Exit.normal (Act.put ⟨_, _⟩ none _) _
            simp only [Act.put]
            have hW := (hJ.f2.writes [.int .u64 pc, .int .u64 tgt, .int .i64 1] (j := rowN pc * 3) (by show rowN pc * 3 + 3 ≤ 16 * 3; omega)).f2
            rw [rws_row c hr] at hW
            generalize w_.setCells g1 (o1 + rowN pc * 3) [.int .u64 pc, .int .u64 tgt, .int .i64 1] = w4 at *
            clear hJ hth h

            obtain ⟨d0, d1, d2, d3, f0, f1, f2, f3⟩ := cells4f hW.heap
            have hbl := lt_of_heap' hW.heap
            have hslh := hW.f5.sl
            obtain ⟨q1', q2, q3⟩ := hW.f3.slw.at_ (j := ctrN pc (c 117)) (by omega)
            rw [cts_get, if_pos hc] at q2
            have HH := hide hW
            clear hW
            go_wp2_with fail
            refine (ctrR_w d3 hbl hslh hI.hist pc p0 p1).mono ?_
            rintro r w5 ⟨rfl, hw5⟩
            replace hw5 := hw5.symm
            subst hw5
            clear hslh
            obtain ⟨K, hK⟩ : ∃ K, ctrN pc (c 117) = K := ⟨_, rfl⟩
            rw [hK] at hc hct q2 q3 ⊢
            obtain ⟨x, hx⟩ : ∃ x, c (48 + K) = x := ⟨_, rfl⟩
            rw [hx] at hct q2
            obtain ⟨HD1, HD2, HD3, HD4⟩ := HD
            rw [hK, hx] at HD2
            clear hK
            by_cases qc : x < 3
            · have zc : decide (x < 3) = true := decide_eq_true qc
              go_wp2_with (refine wpList_store_at rfl 3 _ _ rfl g2 (o2 + K) (.int .i64 (x + 1)) rfl rfl rfl rfl (by kernel_rfl) q2 q3 ?_; refine unhide ?_)
              have h5 := ((unhide HH).f3.write (j := K) (by omega) (.int .i64 (x + 1))).f3.f3
              rw [cts_set] at h5
              generalize World.setCell _ ⟨g2, o2 + K, none⟩ (.int .i64 (x + 1)) = w6 at *
              refine hide ?_
              clear HH q1' q2 q3 d0 d1 d2 d3 f0 f1 f2 f3 hbl
              obtain ⟨d0, d1, d2, d3, f0, f1, f2, f3⟩ := cells4f h5.heap
              have hbl := lt_of_heap' h5.heap
              go_wp2_with (at_builtin; refine wpList_append_sl rfl _ _ 84 rfl 3 i0 _ 1 8 Tryd.underlying84 hi hz0 hz1 hz2 rfl rfl rfl (Sl.single _ 3 (.int .i64 1) (by simp)) (((h5.f5.sl).alloc _).front (k := 5) (c := c4) (by omega) (by omega) (Nat.le_refl _)) (fun y hy => hts_one c y (List.mem_of_mem_take hy)) (by omega) (by omega) ?_; intro v' w' hsl hgr hblk hsp; obtain ⟨A', cap', rfl, _⟩ := hsl.parts; have hJ5 := (h5.single (.int .i64 1) 3).appendw hsl hgr hblk; clear d0 d1 d2 d3 f0 f1 f2 f3 hbl hsl hgr hblk hsp; obtain ⟨d0, d1, d2, d3, f0, f1, f2, f3⟩ := cells4f hJ5.f2.heap; have hbl := lt_of_heap' hJ5.f2.heap)
              have h7 := hJ5.f2.set 3 (.slice A' 6 cap')
              have h8 := h7.f6.tail.f2.soften.f5.f5.f5.f5
              have hC : ∀ i, i < 64 → (upd c (48 + K) (x + 1)) (48 + i) = lSt c pc 1 true tgt (48 + i) := by
                intro i hi
                rw [unhide HD2 i hi]
                by_cases e : i = K
                · subst e
                  rw [if_pos rfl]
                  unfold upd; rw [if_pos rfl]
                  omega
                · rw [if_neg e]; unfold upd; rw [if_neg (by omega)]
              have hdL := hI.learn pc 1 true tgt p0 p1 t0 t1
              have hd3 := unhide HD3
              refine bodyPost_end (v := .tuple #[]) (by simp [results, Tryd.results27, go_sem]) rfl ⟨rfl, rg_mk hdL (rws_congr fun i hi => (unhide HD1 i hi).symm) (cts_congr fun i hi => (hC i hi)) (hd3 116 (by omega) (by omega)).symm (sks_congr hI fun i hi1 hi2 => (hd3 i hi1 hi2).symm) (hts_step hI (bit := 1) (by decide) (unhide HD4)).symm h8⟩
            · obtain rfl : x = 3 := by omega
              have hh' := unhide HH
              obtain ⟨d0, d1, d2, d3, f0, f1, f2, f3⟩ := cells4f hh'.heap
              have hbl := lt_of_heap' hh'.heap
              go_wp2_with (at_builtin; refine wpList_append_sl rfl _ _ 84 rfl 3 i0 _ 1 8 Tryd.underlying84 hi hz0 hz1 hz2 rfl rfl rfl (Sl.single _ 3 (.int .i64 1) (by simp)) (((hh'.f5.sl).alloc _).front (k := 5) (c := c4) (by omega) (by omega) (Nat.le_refl _)) (fun y hy => hts_one c y (List.mem_of_mem_take hy)) (by omega) (by omega) ?_; intro v' w' hsl hgr hblk hsp; obtain ⟨A', cap', rfl, _⟩ := hsl.parts; have hJ5 := (hh'.single (.int .i64 1) 3).appendw hsl hgr hblk; clear d0 d1 d2 d3 f0 f1 f2 f3 hbl hsl hgr hblk hsp; obtain ⟨d0, d1, d2, d3, f0, f1, f2, f3⟩ := cells4f hJ5.f2.heap; have hbl := lt_of_heap' hJ5.f2.heap)
              have h7 := hJ5.f2.set 3 (.slice A' 6 cap')
              have h8 := h7.f6.tail.f2.soften.f5.f5.f5.f5
              have hC : ∀ i, i < 64 → c (48 + i) = lSt c pc 1 true tgt (48 + i) := by
                intro i hi
                rw [unhide HD2 i hi]
                by_cases e : i = K
                · subst e
                  rw [if_pos rfl]
                  rw [hx]
                  omega
                · exact (if_neg e).symm
              have hdL := hI.learn pc 1 true tgt p0 p1 t0 t1
              have hd3 := unhide HD3
              refine bodyPost_end (v := .tuple #[]) (by simp [results, Tryd.results27, go_sem]) rfl ⟨rfl, rg_mk hdL (rws_congr fun i hi => (unhide HD1 i hi).symm) (cts_congr fun i hi => (hC i hi)) (hd3 116 (by omega) (by omega)).symm (sks_congr hI fun i hi1 hi2 => (hd3 i hi1 hi2).symm) (hts_step hI (bit := 1) (by decide) (unhide HD4)).symm h8⟩
        | false =>
          have HD := lst1f c pc tgt hct.1
          obtain ⟨d0, d1, d2, d3, f0, f1, f2, f3⟩ := cells4f h.heap
          have hbl := lt_of_heap' h.heap
          have hslh := h.f5.sl
          obtain ⟨q1', q2, q3⟩ := h.f3.slw.at_ (j := ctrN pc (c 117)) (by omega)
          rw [cts_get, if_pos hc] at q2
          have HH := hide h
          clear h
          go_wp2_with fail
          refine (ctrR_w d3 hbl hslh hI.hist pc p0 p1).mono ?_
          rintro r w5 ⟨rfl, hw5⟩
          replace hw5 := hw5.symm
          subst hw5
          clear hslh
          obtain ⟨K, hK⟩ : ∃ K, ctrN pc (c 117) = K := ⟨_, rfl⟩
          rw [hK] at hc hct q2 q3 ⊢
          obtain ⟨x, hx⟩ : ∃ x, c (48 + K) = x := ⟨_, rfl⟩
          rw [hx] at hct q2
          obtain ⟨HD1, HD2, HD3, HD4⟩ := HD
          rw [hK, hx] at HD2
          clear hK
          by_cases qc : 0 < x
          · have zc : decide (0 < x) = true := decide_eq_true qc
            go_wp2_with (refine wpList_store_at rfl 3 _ _ rfl g2 (o2 + K) (.int .i64 (x - 1)) rfl rfl rfl rfl (by kernel_rfl) q2 q3 ?_; refine unhide ?_)
            have h5 := ((unhide HH).f3.write (j := K) (by omega) (.int .i64 (x - 1))).f3.f3
            rw [cts_set] at h5
            generalize World.setCell _ ⟨g2, o2 + K, none⟩ (.int .i64 (x - 1)) = w6 at *
            refine hide ?_
            clear HH q1' q2 q3 d0 d1 d2 d3 f0 f1 f2 f3 hbl
            obtain ⟨d0, d1, d2, d3, f0, f1, f2, f3⟩ := cells4f h5.heap
            have hbl := lt_of_heap' h5.heap
            go_wp2_with (at_builtin; refine wpList_append_sl rfl _ _ 84 rfl 3 i0 _ 1 8 Tryd.underlying84 hi hz0 hz1 hz2 rfl rfl rfl (Sl.single _ 3 (.int .i64 0) (by simp)) (((h5.f5.sl).alloc _).front (k := 5) (c := c4) (by omega) (by omega) (Nat.le_refl _)) (fun y hy => hts_one c y (List.mem_of_mem_take hy)) (by omega) (by omega) ?_; intro v' w' hsl hgr hblk hsp; obtain ⟨A', cap', rfl, _⟩ := hsl.parts; have hJ5 := (h5.single (.int .i64 0) 3).appendw hsl hgr hblk; clear d0 d1 d2 d3 f0 f1 f2 f3 hbl hsl hgr hblk hsp; obtain ⟨d0, d1, d2, d3, f0, f1, f2, f3⟩ := cells4f hJ5.f2.heap; have hbl := lt_of_heap' hJ5.f2.heap)
            have h7 := hJ5.f2.set 3 (.slice A' 6 cap')
            have h8 := h7.f6.tail.f2.soften.f5.f5.f5.f5
            have hC : ∀ i, i < 64 → (upd c (48 + K) (x - 1)) (48 + i) = lSt c pc 1 false tgt (48 + i) := by
              intro i hi
              rw [unhide HD2 i hi]
              by_cases e : i = K
              · subst e
                rw [if_pos rfl]
                unfold upd; rw [if_pos rfl]
                omega
              · rw [if_neg e]; unfold upd; rw [if_neg (by omega)]
            have hdL := hI.learn pc 1 false tgt p0 p1 t0 t1
            have hd3 := unhide HD3
            refine bodyPost_end (v := .tuple #[]) (by simp [results, Tryd.results27, go_sem]) rfl ⟨rfl, rg_mk hdL (rws_congr fun i hi => (unhide HD1 i hi).symm) (cts_congr fun i hi => (hC i hi)) (hd3 116 (by omega) (by omega)).symm (sks_congr hI fun i hi1 hi2 => (hd3 i hi1 hi2).symm) (hts_step hI (bit := 0) (by decide) (unhide HD4)).symm h8⟩
          · obtain rfl : x = 0 := by omega
            have hh' := unhide HH
            obtain ⟨d0, d1, d2, d3, f0, f1, f2, f3⟩ := cells4f hh'.heap
            have hbl := lt_of_heap' hh'.heap
            go_wp2_with (at_builtin; refine wpList_append_sl rfl _ _ 84 rfl 3 i0 _ 1 8 Tryd.underlying84 hi hz0 hz1 hz2 rfl rfl rfl (Sl.single _ 3 (.int .i64 0) (by simp)) (((hh'.f5.sl).alloc _).front (k := 5) (c := c4) (by omega) (by omega) (Nat.le_refl _)) (fun y hy => hts_one c y (List.mem_of_mem_take hy)) (by omega) (by omega) ?_; intro v' w' hsl hgr hblk hsp; obtain ⟨A', cap', rfl, _⟩ := hsl.parts; have hJ5 := (hh'.single (.int .i64 0) 3).appendw hsl hgr hblk; clear d0 d1 d2 d3 f0 f1 f2 f3 hbl hsl hgr hblk hsp; obtain ⟨d0, d1, d2, d3, f0, f1, f2, f3⟩ := cells4f hJ5.f2.heap; have hbl := lt_of_heap' hJ5.f2.heap)
            have h7 := hJ5.f2.set 3 (.slice A' 6 cap')
            have h8 := h7.f6.tail.f2.soften.f5.f5.f5.f5
            have hC : ∀ i, i < 64 → c (48 + i) = lSt c pc 1 false tgt (48 + i) := by
              intro i hi
              rw [unhide HD2 i hi]
              by_cases e : i = K
              · subst e
                rw [if_pos rfl]
                rw [hx]
                omega
              · exact (if_neg e).symm
            have hdL := hI.learn pc 1 false tgt p0 p1 t0 t1
            have hd3 := unhide HD3
            refine bodyPost_end (v := .tuple #[]) (by simp [results, Tryd.results27, go_sem]) rfl ⟨rfl, rg_mk hdL (rws_congr fun i hi => (unhide HD1 i hi).symm) (cts_congr fun i hi => (hC i hi)) (hd3 116 (by omega) (by omega)).symm (sks_congr hI fun i hi1 hi2 => (hd3 i hi1 hi2).symm) (hts_step hI (bit := 0) (by decide) (unhide HD4)).symm h8⟩
end
end Go.Proofs.YtblbgalpkodibaaDoor
