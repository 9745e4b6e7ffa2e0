/- Layer 18, the reference: Next. -/
import Derived.Test.YtblbgalpkodibaaDoorG15
namespace Go.Proofs.YtblbgalpkodibaaDoor
open Go.RowKit

theorem load_row {w : World} {g o cap : Nat} {c : St} {pc : Int} (h : Sl w 3 (.slice (some ⟨g, o, none⟩) 16 cap) 16 (rws c)) :
    (Instr.loadAt 96 (.pointer (some ⟨g, o + rowN pc * 3, none⟩))).run Tryd.prog w = .ok (.agg #[.int .u64 (c (rowN pc * 3)), .int .u64 (c (rowN pc * 3 + 1)), .int .i64 (c (rowN pc * 3 + 2))]) w := by
  have hr := rowN_lt pc
  obtain ⟨k0, k1, k2⟩ := gk_row hr
  refine run_loadAt_mid w g (o + rowN pc * 3) 96 [.int .u64 (c (rowN pc * 3)), .int .u64 (c (rowN pc * 3 + 1)), .int .i64 (c (rowN pc * 3 + 2))] _ (fun j v hj => ?_) Tryd.underlying96 rfl (by kernel_rfl)
  have h3 : j = 0 ∨ j = 1 ∨ j = 2 := by
    have := (List.getElem?_eq_some_iff.1 hj).1
    simp at this
    omega
  obtain ⟨_, q, _⟩ := h.at_ (j := rowN pc * 3 + j) (by omega)
  rw [rws_get, if_pos (by omega), ← Nat.add_assoc] at q
  rw [q]
  rcases h3 with rfl | rfl | rfl <;> (simp at hj; subst hj; simp [gv, k0, k1, k2])
theorem ld_ctr {w : World} {g o cap : Nat} {c : St} {pc : Int} (h : Sl w 1 (.slice (some ⟨g, o, none⟩) 64 cap) 64 (cts c)) :
    w.cell? ⟨g, o + ctrN pc (c 117), none⟩ = some (.int .i64 (c (48 + ctrN pc (c 117)))) := by
  obtain ⟨_, q, _⟩ := h.at_ (j := ctrN pc (c 117)) (by have := ctrN_lt pc (c 117); omega)
  rw [q, cts_get, if_pos (ctrN_lt _ _)]
theorem info22 : (Tryd.prog.info? 22).map (fun i => (i.zero, i.size, i.bytes)) = some (some (.int .u64 0), 1, 8) := by kernel_rfl
theorem push_out' {c : St} {v : Int} (hz : 0 ≤ c 116 ∧ c 116 ≤ 4) (i : Nat) (h : i < 112) : pushS c v i = c i := by
  unfold pushS shift upd
  split <;> (dsimp only; repeat (first | rw [if_neg (by omega)] | rfl))
theorem push_117 {c : St} (hz : 0 ≤ c 116 ∧ c 116 ≤ 4) (v : Int) : pushS c v 117 = c 117 := by
  unfold pushS shift upd
  split <;> (dsimp only; repeat (first | rw [if_neg (by omega)] | rfl))
theorem sks_one (c : St) : ∀ y ∈ sks c, y.oneCell' = true := by
  intro y hy
  simp only [sks, List.mem_map] at hy
  obtain ⟨i, _, rfl⟩ := hy
  rfl
section
variable {w0 w : World} {L : List HP} {b g1 o1 c1 g2 o2 c2 c3 g4 o4 c4 : Nat} {A3 : Option Addr} {c : St}
theorem rgn {n : Nat} (hn : (c 116).toNat = n) (hI : GI c) (h : Heap w0 w (HP.blk b #[.slice (some ⟨g1, o1, none⟩) 16 c1, .slice (some ⟨g2, o2, none⟩) 64 c2, .slice A3 n c3, .slice (some ⟨g4, o4, none⟩) 6 c4] 87 :: HP.slw (.slice (some ⟨g1, o1, none⟩) 16 c1) 3 16 (rws c) :: HP.slw (.slice (some ⟨g2, o2, none⟩) 64 c2) 1 64 (cts c) :: HP.slw (.slice A3 n c3) 1 n (sks c) :: HP.sl (.slice (some ⟨g4, o4, none⟩) 6 c4) 1 6 (hts c) :: L)) : Heap w0 w (HP.rg b c :: L) := by
  subst hn; exact Heap.rgc hI h
theorem rg_mk3 {V1 V2 V3 V4 : Value} {xs ys : List Value} {n3 : Nat} {d cR cC : St} (hd : GI d) (eR : rws cR = rws d) (eC : cts cC = cts d) (e3 : n3 = (d 116).toNat) (eS : ys = sks d) (eH : xs = hts d)
    (h : Heap w0 w (HP.blk b #[V1, V2, V3, V4] 87 :: HP.slw V1 3 16 (rws cR) :: HP.slw V2 1 64 (cts cC) :: HP.slw V3 1 n3 ys :: HP.sl V4 1 6 xs :: L)) : Heap w0 w (HP.rg b d :: L) := by
  rw [eR, eC, eS, eH, e3] at h
  exact Heap.rg.2 ⟨(_, _, _, _), hd, h⟩
set_option maxRecDepth 100000 in
set_option maxHeartbeats 4000000 in
theorem nextR_k (h : Heap w0 w (HP.blk b #[.slice (some ⟨g1, o1, none⟩) 16 c1, .slice (some ⟨g2, o2, none⟩) 64 c2, .slice A3 (c 116).toNat c3, .slice (some ⟨g4, o4, none⟩) 6 c4] 87 :: HP.slw (.slice (some ⟨g1, o1, none⟩) 16 c1) 3 16 (rws c) :: HP.slw (.slice (some ⟨g2, o2, none⟩) 64 c2) 1 64 (cts c) :: HP.slw (.slice A3 (c 116).toNat c3) 1 (c 116).toNat (sks c) :: HP.sl (.slice (some ⟨g4, o4, none⟩) 6 c4) 1 6 (hts c) :: L)) (hI : GI c) (pc size : Int) (p0 : 0 ≤ pc) (p1 : pc < 18446744073709551616) :
    Calls Tryd.prog 39 #[.pointer (some ⟨b, 0, none⟩), .int .u64 pc, .int .i64 size] w fun r w' => r = .returned (.int .u64 (nOut c pc size)) ∧ Heap w0 w' (HP.rg b (nSt c pc size) :: L) := by
  have hlt := lt_of_heap' h.heap
  have hr := rowN_lt pc
  have hk := hI.kind _ hr
  have hz6 := hI.size
  obtain ⟨n, hn⟩ : ∃ n, (c 116).toNat = n := ⟨_, rfl⟩
  have hn4 : n ≤ 4 := by omega
  rw [hn] at h
  have hcn : c 116 = n := by omega
  have Hn := hide hn
  have Hcn := hide hcn
  clear hn hcn
  go_enter Tryd.func39, Tryd.ntmps39
  go_upto_if 14 with fail
  go_cut [7] (fun s7 wx => s7 = .int .u64 (behind pc size) ∧ wx = w)
  case first =>
    by_cases q : size = 2
    · have z : (size == 2) = true := beq_iff_eq.2 q
      go_wp2
      go_meet
      exact ⟨by unfold behind; rw [if_pos q], rfl⟩
    · have z : (size == 2) = false := beq_eq_false_iff_ne.2 q
      go_wp2
      go_meet
      exact ⟨by unfold behind; rw [if_neg q], rfl⟩
  case rest =>
    obtain ⟨rfl, hw⟩ := hcut
    rw [hw]
    clear hw
    go_wp2
    refine wp_region_E (fun w_ => GN w w_) GN (fun k_ v_ w_ => match k_ with
        | 0 => v_ = .pointer (some ⟨b, 0, none⟩)
        | 1 => v_ = .pointer (some ⟨b, 0, none⟩)
        | 2 => v_ = .pointer (some ⟨b, 0, none⟩)
        | 3 => v_ = .slice (some ⟨g1, o1, none⟩) 16 c1
        | 4 => v_ = .int .u64 pc
        | 5 => v_ = .int .i64 (rowN pc : Nat)
        | 6 => v_ = .pointer (some ⟨g1, o1 + rowN pc * 3, none⟩)
        | 7 => v_ = .agg #[.int .u64 (c (rowN pc * 3)), .int .u64 (c (rowN pc * 3 + 1)), .int .i64 (c (rowN pc * 3 + 2))]
        | _ => ∃ k, v_ = .pointer (some ⟨k, 0, none⟩) ∧ w.heap.size ≤ k ∧ w_.heap[k]? = some (.cells #[.int .u64 0, .int .u64 0, .int .i64 0] 96 (0, 0))) fol (by kernel_rfl) ?_ ?_ (n := 9) rfl rfl rfl (by kernel_rfl) ?_ ?_
    · exact (GN.refl w).drew
    · intro k_ v_ w_ w2_ h1 hg
      split at h1 <;> first | exact h1 | (obtain ⟨k, e, q, r⟩ := h1; exact ⟨k, e, q, hg.heap r⟩)
    · intro vals
      show wpG _ _ _ _ _ _ 0 (_ :: _) _
      refine wpG_cons (gval (.pointer (some ⟨b, 0, none⟩)) GN.refl fun w_ hJ hd => ?_) ?_
      · exact ⟨by kernel_rfl, by kernel_rfl, rfl⟩
      refine wpG_cons (gval (.pointer (some ⟨b, 0, none⟩)) GN.refl fun w_ hJ hd => ?_) ?_
      · have e0 : vals 0 = _ := hd 0 (by decide) (by kernel_rfl)
        rw [e0]
        exact ⟨by kernel_rfl, by kernel_rfl, rfl⟩
      refine wpG_cons (gval (.pointer (some ⟨b, 0, none⟩)) GN.refl fun w_ hJ hd => ?_) ?_
      · have e1 : vals 1 = _ := hd 1 (by decide) (by kernel_rfl)
        rw [e1]
        exact ⟨by kernel_rfl, by kernel_rfl, rfl⟩
      refine wpG_cons (gop (Instr.loadAt 83 (.pointer (some ⟨b, 0, none⟩))) (.slice (some ⟨g1, o1, none⟩) 16 c1) GN.refl fun w_ hJ hd => ?_) ?_
      · have e2 : vals 2 = _ := hd 2 (by decide) (by kernel_rfl)
        rw [e2]
        exact ⟨by kernel_rfl, by kernel_rfl, run_load1 (by kernel_rfl) (cells4f (h.grown hJ).heap).1, rfl⟩
      refine wpG_cons (gval (.int .u64 pc) GN.refl fun w_ hJ hd => ?_) ?_
      · exact ⟨by kernel_rfl, by kernel_rfl, rfl⟩
      refine wpG_cons (gcall 42 #[.int .u64 pc] fun w_ hJ hd => ?_) ?_
      · have e4 : vals 4 = _ := hd 4 (by decide) (by kernel_rfl)
        rw [e4]
        exact ⟨by kernel_rfl, by kernel_rfl, (rowR_any pc p0 p1 w_).mono fun e w' ⟨hr, hw⟩ => ⟨_, hr, by rw [hw]; exact hJ, by rw [hw]; exact GN.refl _, rfl⟩⟩
      refine wpG_cons (gop (Instr.indexAt 83 (.slice (some ⟨g1, o1, none⟩) 16 c1) (.int .i64 (rowN pc : Nat))) (.pointer (some ⟨g1, o1 + rowN pc * 3, none⟩)) GN.refl fun w_ hJ hd => ?_) ?_
      · have e3 : vals 3 = _ := hd 3 (by decide) (by kernel_rfl)
        have e5 : vals 5 = _ := hd 5 (by decide) (by kernel_rfl)
        rw [e3, e5]
        exact ⟨by kernel_rfl, by kernel_rfl, run_ixat 83 96 3 Tryd.underlying83 (by kernel_rfl) _ _ _ _ _ (rowN_lt pc) w_, rfl⟩
      refine wpG_cons (gop (Instr.loadAt 96 (.pointer (some ⟨g1, o1 + rowN pc * 3, none⟩))) (.agg #[.int .u64 (c (rowN pc * 3)), .int .u64 (c (rowN pc * 3 + 1)), .int .i64 (c (rowN pc * 3 + 2))]) GN.refl fun w_ hJ hd => ?_) ?_
      · have e6 : vals 6 = _ := hd 6 (by decide) (by kernel_rfl)
        rw [e6]
        exact ⟨by kernel_rfl, by kernel_rfl, load_row (h.grown hJ).f2.slw, rfl⟩
      refine wpG_cons (gmake fun w_ hJ hd => ?_) wpG_nil
      · exact ⟨by kernel_rfl, _, w_.alloc (.cells #[.int .u64 0, .int .u64 0, .int .i64 0] 96), (by kernel_rfl : _ = Result.ok (Next.value (.pointer (some ⟨w_.heap.size, 0, none⟩))) _), hJ.alloc _, grown_b1 _ _, w_.heap.size, rfl, hJ.size, heap_new' _ _⟩
    · intro vals w_ hJ hf
      have e0 : vals 0 = _ := hf 0 (by decide)
      have e1 : vals 1 = _ := hf 1 (by decide)
      have e2 : vals 2 = _ := hf 2 (by decide)
      have e3 : vals 3 = _ := hf 3 (by decide)
      have e4 : vals 4 = _ := hf 4 (by decide)
      have e5 : vals 5 = _ := hf 5 (by decide)
      have e6 : vals 6 = _ := hf 6 (by decide)
      have e7 : vals 7 = _ := hf 7 (by decide)
      have e8 : ∃ k, (vals 8) = .pointer (some ⟨k, 0, none⟩) ∧ w.heap.size ≤ k ∧ w_.heap[k]? = some (.cells #[.int .u64 0, .int .u64 0, .int .i64 0] 96 (0, 0)) := hf 8 (by decide)
      show Oper.wp _ _ (fillG vals 0 (_ :: _ :: _ :: _ :: _ :: _ :: _ :: _ :: _ :: []) _) _ _ _
      simp only [fillG, Nat.zero_add, Nat.reduceAdd, e0, e1, e2, e3, e4, e5, e6, e7, Act.put, List.setIfInBounds_toArray, List.set_cons_succ, List.set_cons_zero]
      clear e0 e1 e2 e3 e4 e5 e6 e7 hf
      generalize vals 8 = v8 at *
      obtain ⟨k, rfl, hk0, hk⟩ := e8
      have h1 := h.freshBlk hJ hk hk0
      have hth := there_blk (n := 3) (o := 0) hk (by simp)
      refine wp_last_skip (w' := w_.setCells k 0 [.int .u64 (c (rowN pc * 3)), .int .u64 (c (rowN pc * 3 + 1)), .int .i64 (c (rowN pc * 3 + 2))]) (m := Instr.storeAt 96 (.pointer (some ⟨k, 0, none⟩)) (.agg #[.int .u64 (c (rowN pc * 3)), .int .u64 (c (rowN pc * 3 + 1)), .int .i64 (c (rowN pc * 3 + 2))])) (by kernel_rfl) (run_storeAt_mid w_ k 0 96 #[.int .u64 (c (rowN pc * 3)), .int .u64 (c (rowN pc * 3 + 1)), .int .i64 (c (rowN pc * 3 + 2))] hth (by kernel_rfl) (by kernel_rfl)) ?_
      first | show Exit.then _ _ Exit.normal (Act.put ⟨_, _⟩ none _) _ | show Exit.inBlock _ _ Exit.normal (Act.put ⟨_, _⟩ none _) _
      simp only [Act.put]
      have h2 : Heap w0 (w_.setCells k 0 [.int .u64 (c (rowN pc * 3)), .int .u64 (c (rowN pc * 3 + 1)), .int .i64 (c (rowN pc * 3 + 2))]) (HP.blk k #[.int .u64 (c (rowN pc * 3)), .int .u64 (c (rowN pc * 3 + 1)), .int .i64 (c (rowN pc * 3 + 2))] 96 :: HP.blk b #[.slice (some ⟨g1, o1, none⟩) 16 c1, .slice (some ⟨g2, o2, none⟩) 64 c2, .slice A3 n c3, .slice (some ⟨g4, o4, none⟩) 6 c4] 87 :: HP.slw (.slice (some ⟨g1, o1, none⟩) 16 c1) 3 16 (rws c) :: HP.slw (.slice (some ⟨g2, o2, none⟩) 64 c2) 1 64 (cts c) :: HP.slw (.slice A3 n c3) 1 n (sks c) :: HP.sl (.slice (some ⟨g4, o4, none⟩) 6 c4) 1 6 (hts c) :: L) := h1.sets (xs := [.int .u64 0, .int .u64 0, .int .i64 0]) [.int .u64 (c (rowN pc * 3)), .int .u64 (c (rowN pc * 3 + 1)), .int .i64 (c (rowN pc * 3 + 2))] 0
      generalize w_.setCells k 0 [.int .u64 (c (rowN pc * 3)), .int .u64 (c (rowN pc * 3 + 1)), .int .i64 (c (rowN pc * 3 + 2))] = w4 at *
      clear hJ hth h1 h hk hk0

      obtain ⟨hd0, hd1, hd2, _⟩ := cells3f h2.heap
      have hkl := lt_of_heap' h2.heap
      obtain ⟨x0, hx0⟩ : ∃ x, c (rowN pc * 3) = x := ⟨_, rfl⟩
      obtain ⟨x1, hx1⟩ : ∃ x, c (rowN pc * 3 + 1) = x := ⟨_, rfl⟩
      obtain ⟨x2, hx2⟩ : ∃ x, c (rowN pc * 3 + 2) = x := ⟨_, rfl⟩
      rw [hx0] at hd0
      rw [hx1] at hd1
      rw [hx2] at hd2 hk
      rw [hx0, hx1, hx2] at h2
      obtain ⟨d0, d1, d2, d3, f0, f1, f2, f3⟩ := cells4f h2.f2.heap
      have hbl := lt_of_heap' h2.f2.heap
      have HI := hide hI
      by_cases k0 : x2 = 0
      · subst k0
        have hz : rk c pc = 0 := by unfold rk; rw [hx2]; split <;> rfl
        have e1 : nOut c pc size = behind pc size ∧ nSt c pc size = c := by unfold nOut nSt; rw [hz]; simp
        have E1 := hide e1
        clear e1 hz hx0 hx1 hx2
        go_wp2
        exact bodyPost_ret (v := .int .u64 (behind pc size)) (by simp [results, Tryd.results39, go_sem]) rfl ⟨by rw [(unhide E1).1], by rw [(unhide E1).2]; exact rgn (unhide Hn) hI h2.tail⟩
      · have z0 : (x2 == 0) = false := beq_eq_false_iff_ne.2 k0
        by_cases q : x0 = pc
        · have zq : (x0 != pc) = false := by simp [q]
          have hrk : rk c pc = x2 := by unfold rk; rw [hx0, hx2, if_pos q]
          have h4 : x2 = 1 ∨ x2 = 2 ∨ x2 = 3 ∨ x2 = 4 := by omega
          clear k0
          rcases h4 with rfl | rfl | rfl | rfl
          · -- a branch
            have hout : nSt c pc size = c ∧ nOut c pc size = if c (48 + ctrN pc (c 117)) < 2 then behind pc size else x1 := by
              refine ⟨by unfold nSt; rw [hrk]; rfl, ?_⟩
              unfold nOut
              rw [hrk, if_pos rfl, hx1]
              by_cases h2 : c (48 + ctrN pc (c 117)) < 2
              · rw [if_pos h2, if_neg (by omega)]
              · rw [if_neg h2, if_pos (by omega)]
            have Ho := hide hout
            clear hout hrk hx2 hk z0
            go_wp2
            refine wp_region_F (fun w_ => Heap w0 w_ (HP.blk k #[.int .u64 x0, .int .u64 x1, .int .i64 1] 96 :: HP.blk b #[.slice (some ⟨g1, o1, none⟩) 16 c1, .slice (some ⟨g2, o2, none⟩) 64 c2, .slice A3 n c3, .slice (some ⟨g4, o4, none⟩) 6 c4] 87 :: HP.slw (.slice (some ⟨g1, o1, none⟩) 16 c1) 3 16 (rws c) :: HP.slw (.slice (some ⟨g2, o2, none⟩) 64 c2) 1 64 (cts c) :: HP.slw (.slice A3 n c3) 1 n (sks c) :: HP.sl (.slice (some ⟨g4, o4, none⟩) 6 c4) 1 6 (hts c) :: L)) (fun _ _ => True) (fun k_ v_ w_ => match k_ with
                | 0 => v_ = .pointer (some ⟨k, 2, none⟩)
                | 1 => v_ = .int .i64 1
                | 2 => v_ = .bool true
                | 3 => v_ = .bool true
                | 4 => v_ = .pointer (some ⟨b, 0, none⟩)
                | 5 => v_ = .pointer (some ⟨b, 0, none⟩)
                | 6 => v_ = .pointer (some ⟨b, 1, none⟩)
                | 7 => v_ = .slice (some ⟨g2, o2, none⟩) 64 c2
                | 8 => v_ = .pointer (some ⟨b, 0, none⟩)
                | 9 => v_ = .int .u64 pc
                | 10 => v_ = .int .i64 (ctrN pc (c 117) : Nat)
                | 11 => v_ = .pointer (some ⟨g2, o2 + ctrN pc (c 117), none⟩)
                | 12 => v_ = .int .i64 (c (48 + ctrN pc (c 117)))
                | 13 => v_ = .bool (decide (c (48 + ctrN pc (c 117)) < 2))
                | 14 => v_ = .bool (decide (c (48 + ctrN pc (c 117)) < 2))
                | _ => v_ = .bool (decide (c (48 + ctrN pc (c 117)) < 2))) fol (by kernel_rfl) ?_ ?_ ?_ ?_
            · exact h2.drew
            · intro k_ v_ w_ w2_ h1 hg
              split at h1 <;> exact h1
            · intro vals
              show wpG _ _ _ _ _ _ 0 (_ :: _) _
              refine wpG_cons (gval (.pointer (some ⟨k, 2, none⟩)) (fun _ => trivial) fun w_ hJ hd => ?_) ?_
              · exact ⟨by kernel_rfl, by kernel_rfl, rfl⟩
              refine wpG_cons (gop (Instr.loadAt 3 (.pointer (some ⟨k, 2, none⟩))) (.int .i64 1) (fun _ => trivial) fun w_ hJ hd => ?_) ?_
              · have e0 : vals 0 = _ := hd 0 (by decide) (by kernel_rfl)
                rw [e0]
                exact ⟨by kernel_rfl, by kernel_rfl, run_load1 (by kernel_rfl) (cells3f hJ.heap).2.2.1, rfl⟩
              refine wpG_cons (gval (.bool true) (fun _ => trivial) fun w_ hJ hd => ?_) ?_
              · have e1 : vals 1 = _ := hd 1 (by decide) (by kernel_rfl)
                rw [e1]
                exact ⟨by kernel_rfl, by kernel_rfl, rfl⟩
              refine wpG_cons (gval (.bool true) (fun _ => trivial) fun w_ hJ hd => ?_) ?_
              · have e2 : vals 2 = _ := hd 2 (by decide) (by kernel_rfl)
                rw [e2]
                exact ⟨by kernel_rfl, by kernel_rfl, rfl⟩
              refine wpG_cons (gval (.pointer (some ⟨b, 0, none⟩)) (fun _ => trivial) fun w_ hJ hd => ?_) ?_
              · have e3 : vals 3 = _ := hd 3 (by decide) (by kernel_rfl)
                rw [e3]
                exact ⟨by kernel_rfl, by kernel_rfl, rfl⟩
              refine wpG_cons (gval (.pointer (some ⟨b, 0, none⟩)) (fun _ => trivial) fun w_ hJ hd => ?_) ?_
              · have e3 : vals 3 = _ := hd 3 (by decide) (by kernel_rfl)
                have e4 : vals 4 = _ := hd 4 (by decide) (by kernel_rfl)
                rw [e3, e4]
                exact ⟨by kernel_rfl, by kernel_rfl, rfl⟩
              refine wpG_cons (gval (.pointer (some ⟨b, 1, none⟩)) (fun _ => trivial) fun w_ hJ hd => ?_) ?_
              · have e3 : vals 3 = _ := hd 3 (by decide) (by kernel_rfl)
                have e5 : vals 5 = _ := hd 5 (by decide) (by kernel_rfl)
                rw [e3, e5]
                exact ⟨by kernel_rfl, by kernel_rfl, rfl⟩
              refine wpG_cons (gop (Instr.loadAt 84 (.pointer (some ⟨b, 1, none⟩))) (.slice (some ⟨g2, o2, none⟩) 64 c2) (fun _ => trivial) fun w_ hJ hd => ?_) ?_
              · have e3 : vals 3 = _ := hd 3 (by decide) (by kernel_rfl)
                have e6 : vals 6 = _ := hd 6 (by decide) (by kernel_rfl)
                rw [e3, e6]
                exact ⟨by kernel_rfl, by kernel_rfl, run_load1 (by kernel_rfl) (cells4f hJ.f2.heap).2.1, rfl⟩
              refine wpG_cons (gval (.pointer (some ⟨b, 0, none⟩)) (fun _ => trivial) fun w_ hJ hd => ?_) ?_
              · have e3 : vals 3 = _ := hd 3 (by decide) (by kernel_rfl)
                rw [e3]
                exact ⟨by kernel_rfl, by kernel_rfl, rfl⟩
              refine wpG_cons (gval (.int .u64 pc) (fun _ => trivial) fun w_ hJ hd => ?_) ?_
              · have e3 : vals 3 = _ := hd 3 (by decide) (by kernel_rfl)
                rw [e3]
                exact ⟨by kernel_rfl, by kernel_rfl, rfl⟩
              refine wpG_cons (gcall 43 #[.pointer (some ⟨b, 0, none⟩), .int .u64 pc] fun w_ hJ hd => ?_) ?_
              · have e3 : vals 3 = _ := hd 3 (by decide) (by kernel_rfl)
                have e8 : vals 8 = _ := hd 8 (by decide) (by kernel_rfl)
                have e9 : vals 9 = _ := hd 9 (by decide) (by kernel_rfl)
                rw [e3, e8, e9]
                exact ⟨by kernel_rfl, by kernel_rfl, (ctrR_w (cells4f hJ.f2.heap).2.2.2.1 (lt_of_heap' hJ.f2.heap) hJ.f6.sl (unhide HI).hist pc p0 p1).mono fun e w' ⟨hr, hw⟩ => ⟨_, hr, by rw [hw]; exact hJ, trivial, rfl⟩⟩
              refine wpG_cons (gop (Instr.indexAt 84 (.slice (some ⟨g2, o2, none⟩) 64 c2) (.int .i64 (ctrN pc (c 117) : Nat))) (.pointer (some ⟨g2, o2 + ctrN pc (c 117), none⟩)) (fun _ => trivial) fun w_ hJ hd => ?_) ?_
              · have e3 : vals 3 = _ := hd 3 (by decide) (by kernel_rfl)
                have e7 : vals 7 = _ := hd 7 (by decide) (by kernel_rfl)
                have e10 : vals 10 = _ := hd 10 (by decide) (by kernel_rfl)
                rw [e3, e7, e10]
                exact ⟨by kernel_rfl, by kernel_rfl, (run_ixat 84 3 1 Tryd.underlying84 (by kernel_rfl) _ _ _ _ _ (ctrN_lt pc (c 117)) w_).trans (by rw [Nat.mul_one]), rfl⟩
              refine wpG_cons (gop (Instr.loadAt 3 (.pointer (some ⟨g2, o2 + ctrN pc (c 117), none⟩))) (.int .i64 (c (48 + ctrN pc (c 117)))) (fun _ => trivial) fun w_ hJ hd => ?_) ?_
              · have e3 : vals 3 = _ := hd 3 (by decide) (by kernel_rfl)
                have e11 : vals 11 = _ := hd 11 (by decide) (by kernel_rfl)
                rw [e3, e11]
                exact ⟨by kernel_rfl, by kernel_rfl, run_load1 (by kernel_rfl) (ld_ctr hJ.f4.slw), rfl⟩
              refine wpG_cons (gval (.bool (decide (c (48 + ctrN pc (c 117)) < 2))) (fun _ => trivial) fun w_ hJ hd => ?_) ?_
              · have e3 : vals 3 = _ := hd 3 (by decide) (by kernel_rfl)
                have e12 : vals 12 = _ := hd 12 (by decide) (by kernel_rfl)
                rw [e3, e12]
                exact ⟨by kernel_rfl, by kernel_rfl, rfl⟩
              refine wpG_cons (gval (.bool (decide (c (48 + ctrN pc (c 117)) < 2))) (fun _ => trivial) fun w_ hJ hd => ?_) ?_
              · have e3 : vals 3 = _ := hd 3 (by decide) (by kernel_rfl)
                have e13 : vals 13 = _ := hd 13 (by decide) (by kernel_rfl)
                rw [e3, e13]
                exact ⟨by kernel_rfl, by kernel_rfl, rfl⟩
              refine wpG_cons (gval (.bool (decide (c (48 + ctrN pc (c 117)) < 2))) (fun _ => trivial) fun w_ hJ hd => ?_) wpG_nil
              · have e14 : vals 14 = _ := hd 14 (by decide) (by kernel_rfl)
                rw [e14]
                exact ⟨by kernel_rfl, by kernel_rfl, rfl⟩
            · intro vals w_ hJ hf
              have e0 : vals 0 = _ := hf 0 (by decide)
              have e1 : vals 1 = _ := hf 1 (by decide)
              have e2 : vals 2 = _ := hf 2 (by decide)
              have e3 : vals 3 = _ := hf 3 (by decide)
              have e4 : vals 4 = _ := hf 4 (by decide)
              have e5 : vals 5 = _ := hf 5 (by decide)
              have e6 : vals 6 = _ := hf 6 (by decide)
              have e7 : vals 7 = _ := hf 7 (by decide)
              have e8 : vals 8 = _ := hf 8 (by decide)
              have e9 : vals 9 = _ := hf 9 (by decide)
              have e10 : vals 10 = _ := hf 10 (by decide)
              have e11 : vals 11 = _ := hf 11 (by decide)
              have e12 : vals 12 = _ := hf 12 (by decide)
              have e13 : vals 13 = _ := hf 13 (by decide)
              have e14 : vals 14 = _ := hf 14 (by decide)
              have e15 : vals 15 = _ := hf 15 (by decide)
              simp only [fillG, Nat.zero_add, Nat.reduceAdd, e0, e1, e2, e3, e4, e5, e6, e7, e8, e9, e10, e11, e12, e13, e14, e15, Act.put, List.setIfInBounds_toArray, List.set_cons_succ, List.set_cons_zero]
              clear e0 e1 e2 e3 e4 e5 e6 e7 e8 e9 e10 e11 e12 e13 e14 e15 hf
              by_cases h2c : c (48 + ctrN pc (c 117)) < 2
              · have zc : decide (c (48 + ctrN pc (c 117)) < 2) = true := decide_eq_true h2c
                go_wp2
                exact bodyPost_ret (v := .int .u64 (behind pc size)) (by simp [results, Tryd.results39, go_sem]) rfl ⟨by rw [(unhide Ho).2, if_pos h2c], by rw [(unhide Ho).1]; exact rgn (unhide Hn) (unhide HI) hJ.tail⟩
              · have zc : decide (c (48 + ctrN pc (c 117)) < 2) = false := decide_eq_false h2c
                obtain ⟨hd0, hd1, hd2, _⟩ := cells3f hJ.heap
                have hkl := lt_of_heap' hJ.heap
                go_wp2
                exact bodyPost_ret (v := .int .u64 x1) (by simp [results, Tryd.results39, go_sem]) rfl ⟨by rw [(unhide Ho).2, if_neg (by omega)], by rw [(unhide Ho).1]; exact rgn (unhide Hn) (unhide HI) hJ.tail⟩
          · have hout : nSt c pc size = c ∧ nOut c pc size = x1 := by unfold nSt nOut; rw [hrk]; simp [hx1]
            have Ho := hide hout
            clear hout hrk hx2 hk z0
            go_wp2
            refine wp_region_F (fun w_ => Heap w0 w_ (HP.blk k #[.int .u64 x0, .int .u64 x1, .int .i64 2] 96 :: HP.blk b #[.slice (some ⟨g1, o1, none⟩) 16 c1, .slice (some ⟨g2, o2, none⟩) 64 c2, .slice A3 n c3, .slice (some ⟨g4, o4, none⟩) 6 c4] 87 :: HP.slw (.slice (some ⟨g1, o1, none⟩) 16 c1) 3 16 (rws c) :: HP.slw (.slice (some ⟨g2, o2, none⟩) 64 c2) 1 64 (cts c) :: HP.slw (.slice A3 n c3) 1 n (sks c) :: HP.sl (.slice (some ⟨g4, o4, none⟩) 6 c4) 1 6 (hts c) :: L)) (fun _ _ => True) (fun k_ v_ w_ => match k_ with
                | 0 => v_ = .pointer (some ⟨k, 2, none⟩)
                | 1 => v_ = .int .i64 2
                | 2 => v_ = .bool false
                | 3 => v_ = .bool false
                | 4 => v_ = undef
                | 5 => v_ = undef
                | 6 => v_ = undef
                | 7 => v_ = undef
                | 8 => v_ = undef
                | 9 => v_ = undef
                | 10 => v_ = undef
                | 11 => v_ = undef
                | 12 => v_ = undef
                | 13 => v_ = undef
                | 14 => v_ = .bool false
                | _ => v_ = .bool false) fol (by kernel_rfl) ?_ ?_ ?_ ?_
            · exact h2.drew
            · intro k_ v_ w_ w2_ h1 hg
              split at h1 <;> exact h1
            · intro vals
              show wpG _ _ _ _ _ _ 0 (_ :: _) _
              refine wpG_cons (gval (.pointer (some ⟨k, 2, none⟩)) (fun _ => trivial) fun w_ hJ hd => ?_) ?_
              · exact ⟨by kernel_rfl, by kernel_rfl, rfl⟩
              refine wpG_cons (gop (Instr.loadAt 3 (.pointer (some ⟨k, 2, none⟩))) (.int .i64 2) (fun _ => trivial) fun w_ hJ hd => ?_) ?_
              · have e0 : vals 0 = _ := hd 0 (by decide) (by kernel_rfl)
                rw [e0]
                exact ⟨by kernel_rfl, by kernel_rfl, run_load1 (by kernel_rfl) (cells3f hJ.heap).2.2.1, rfl⟩
              refine wpG_cons (gval (.bool false) (fun _ => trivial) fun w_ hJ hd => ?_) ?_
              · have e1 : vals 1 = _ := hd 1 (by decide) (by kernel_rfl)
                rw [e1]
                exact ⟨by kernel_rfl, by kernel_rfl, rfl⟩
              refine wpG_cons (gval (.bool false) (fun _ => trivial) fun w_ hJ hd => ?_) ?_
              · have e2 : vals 2 = _ := hd 2 (by decide) (by kernel_rfl)
                rw [e2]
                exact ⟨by kernel_rfl, by kernel_rfl, rfl⟩
              refine wpG_cons (gskip fun w_ hJ hd => ?_) ?_
              · have e3 : vals 3 = _ := hd 3 (by decide) (by kernel_rfl)
                rw [e3]
                exact ⟨by kernel_rfl, rfl⟩
              refine wpG_cons (gskip fun w_ hJ hd => ?_) ?_
              · have e3 : vals 3 = _ := hd 3 (by decide) (by kernel_rfl)
                rw [e3]
                exact ⟨by kernel_rfl, rfl⟩
              refine wpG_cons (gskip fun w_ hJ hd => ?_) ?_
              · have e3 : vals 3 = _ := hd 3 (by decide) (by kernel_rfl)
                rw [e3]
                exact ⟨by kernel_rfl, rfl⟩
              refine wpG_cons (gskip fun w_ hJ hd => ?_) ?_
              · have e3 : vals 3 = _ := hd 3 (by decide) (by kernel_rfl)
                rw [e3]
                exact ⟨by kernel_rfl, rfl⟩
              refine wpG_cons (gskip fun w_ hJ hd => ?_) ?_
              · have e3 : vals 3 = _ := hd 3 (by decide) (by kernel_rfl)
                rw [e3]
                exact ⟨by kernel_rfl, rfl⟩
              refine wpG_cons (gskip fun w_ hJ hd => ?_) ?_
              · have e3 : vals 3 = _ := hd 3 (by decide) (by kernel_rfl)
                rw [e3]
                exact ⟨by kernel_rfl, rfl⟩
              refine wpG_cons (gskip fun w_ hJ hd => ?_) ?_
              · have e3 : vals 3 = _ := hd 3 (by decide) (by kernel_rfl)
                rw [e3]
                exact ⟨by kernel_rfl, rfl⟩
              refine wpG_cons (gskip fun w_ hJ hd => ?_) ?_
              · have e3 : vals 3 = _ := hd 3 (by decide) (by kernel_rfl)
                rw [e3]
                exact ⟨by kernel_rfl, rfl⟩
              refine wpG_cons (gskip fun w_ hJ hd => ?_) ?_
              · have e3 : vals 3 = _ := hd 3 (by decide) (by kernel_rfl)
                rw [e3]
                exact ⟨by kernel_rfl, rfl⟩
              refine wpG_cons (gskip fun w_ hJ hd => ?_) ?_
              · have e3 : vals 3 = _ := hd 3 (by decide) (by kernel_rfl)
                rw [e3]
                exact ⟨by kernel_rfl, rfl⟩
              refine wpG_cons (gval (.bool false) (fun _ => trivial) fun w_ hJ hd => ?_) ?_
              · have e3 : vals 3 = _ := hd 3 (by decide) (by kernel_rfl)
                have e13 : vals 13 = _ := hd 13 (by decide) (by kernel_rfl)
                rw [e3, e13]
                exact ⟨by kernel_rfl, by kernel_rfl, rfl⟩
              refine wpG_cons (gval (.bool false) (fun _ => trivial) fun w_ hJ hd => ?_) wpG_nil
              · have e14 : vals 14 = _ := hd 14 (by decide) (by kernel_rfl)
                rw [e14]
                exact ⟨by kernel_rfl, by kernel_rfl, rfl⟩
            · intro vals w_ hJ hf
              have e0 : vals 0 = _ := hf 0 (by decide)
              have e1 : vals 1 = _ := hf 1 (by decide)
              have e2 : vals 2 = _ := hf 2 (by decide)
              have e3 : vals 3 = _ := hf 3 (by decide)
              have e4 : vals 4 = _ := hf 4 (by decide)
              have e5 : vals 5 = _ := hf 5 (by decide)
              have e6 : vals 6 = _ := hf 6 (by decide)
              have e7 : vals 7 = _ := hf 7 (by decide)
              have e8 : vals 8 = _ := hf 8 (by decide)
              have e9 : vals 9 = _ := hf 9 (by decide)
              have e10 : vals 10 = _ := hf 10 (by decide)
              have e11 : vals 11 = _ := hf 11 (by decide)
              have e12 : vals 12 = _ := hf 12 (by decide)
              have e13 : vals 13 = _ := hf 13 (by decide)
              have e14 : vals 14 = _ := hf 14 (by decide)
              have e15 : vals 15 = _ := hf 15 (by decide)
              simp only [fillG, Nat.zero_add, Nat.reduceAdd, e0, e1, e2, e3, e4, e5, e6, e7, e8, e9, e10, e11, e12, e13, e14, e15, Act.put, List.setIfInBounds_toArray, List.set_cons_succ, List.set_cons_zero]
              clear e0 e1 e2 e3 e4 e5 e6 e7 e8 e9 e10 e11 e12 e13 e14 e15 hf
              obtain ⟨hd0, hd1, hd2, _⟩ := cells3f hJ.heap
              have hkl := lt_of_heap' hJ.heap
              go_wp2
              exact bodyPost_ret (v := .int .u64 x1) (by simp [results, Tryd.results39, go_sem]) rfl ⟨by rw [(unhide Ho).2], by rw [(unhide Ho).1]; exact rgn (unhide Hn) (unhide HI) hJ.tail⟩
          · have hout : nSt c pc size = pushS c (behind pc size) ∧ nOut c pc size = x1 := by unfold nSt nOut; rw [hrk]; simp [hx1]
            have Ho := hide hout
            have hbh := behind_bd pc size
            have Hfin := hide (hI.push hbh.1 hbh.2)
            have Hsk := hide (sks_push hI (behind pc size))
            clear hout hrk hx2 hk z0
            generalize behind pc size = bh at *
            obtain ⟨i0, hi, hz0, hz1, hz2⟩ := info_parts info22
            go_wp2
            refine wp_region_F (fun w_ => Heap w0 w_ (HP.blk k #[.int .u64 x0, .int .u64 x1, .int .i64 3] 96 :: HP.blk b #[.slice (some ⟨g1, o1, none⟩) 16 c1, .slice (some ⟨g2, o2, none⟩) 64 c2, .slice A3 n c3, .slice (some ⟨g4, o4, none⟩) 6 c4] 87 :: HP.slw (.slice (some ⟨g1, o1, none⟩) 16 c1) 3 16 (rws c) :: HP.slw (.slice (some ⟨g2, o2, none⟩) 64 c2) 1 64 (cts c) :: HP.slw (.slice A3 n c3) 1 n (sks c) :: HP.sl (.slice (some ⟨g4, o4, none⟩) 6 c4) 1 6 (hts c) :: L)) (fun _ _ => True) (fun k_ v_ w_ => match k_ with
                | 0 => v_ = .pointer (some ⟨k, 2, none⟩)
                | 1 => v_ = .int .i64 3
                | 2 => v_ = .bool false
                | 3 => v_ = .bool false
                | 4 => v_ = undef
                | 5 => v_ = undef
                | 6 => v_ = undef
                | 7 => v_ = undef
                | 8 => v_ = undef
                | 9 => v_ = undef
                | 10 => v_ = undef
                | 11 => v_ = undef
                | 12 => v_ = undef
                | 13 => v_ = undef
                | 14 => v_ = .bool false
                | _ => v_ = .bool false) fol (by kernel_rfl) ?_ ?_ ?_ ?_
            · exact h2.drew
            · intro k_ v_ w_ w2_ h1 hg
              split at h1 <;> exact h1
            · intro vals
              show wpG _ _ _ _ _ _ 0 (_ :: _) _
              refine wpG_cons (gval (.pointer (some ⟨k, 2, none⟩)) (fun _ => trivial) fun w_ hJ hd => ?_) ?_
              · exact ⟨by kernel_rfl, by kernel_rfl, rfl⟩
              refine wpG_cons (gop (Instr.loadAt 3 (.pointer (some ⟨k, 2, none⟩))) (.int .i64 3) (fun _ => trivial) fun w_ hJ hd => ?_) ?_
              · have e0 : vals 0 = _ := hd 0 (by decide) (by kernel_rfl)
                rw [e0]
                exact ⟨by kernel_rfl, by kernel_rfl, run_load1 (by kernel_rfl) (cells3f hJ.heap).2.2.1, rfl⟩
              refine wpG_cons (gval (.bool false) (fun _ => trivial) fun w_ hJ hd => ?_) ?_
              · have e1 : vals 1 = _ := hd 1 (by decide) (by kernel_rfl)
                rw [e1]
                exact ⟨by kernel_rfl, by kernel_rfl, rfl⟩
              refine wpG_cons (gval (.bool false) (fun _ => trivial) fun w_ hJ hd => ?_) ?_
              · have e2 : vals 2 = _ := hd 2 (by decide) (by kernel_rfl)
                rw [e2]
                exact ⟨by kernel_rfl, by kernel_rfl, rfl⟩
              refine wpG_cons (gskip fun w_ hJ hd => ?_) ?_
              · have e3 : vals 3 = _ := hd 3 (by decide) (by kernel_rfl)
                rw [e3]
                exact ⟨by kernel_rfl, rfl⟩
              refine wpG_cons (gskip fun w_ hJ hd => ?_) ?_
              · have e3 : vals 3 = _ := hd 3 (by decide) (by kernel_rfl)
                rw [e3]
                exact ⟨by kernel_rfl, rfl⟩
              refine wpG_cons (gskip fun w_ hJ hd => ?_) ?_
              · have e3 : vals 3 = _ := hd 3 (by decide) (by kernel_rfl)
                rw [e3]
                exact ⟨by kernel_rfl, rfl⟩
              refine wpG_cons (gskip fun w_ hJ hd => ?_) ?_
              · have e3 : vals 3 = _ := hd 3 (by decide) (by kernel_rfl)
                rw [e3]
                exact ⟨by kernel_rfl, rfl⟩
              refine wpG_cons (gskip fun w_ hJ hd => ?_) ?_
              · have e3 : vals 3 = _ := hd 3 (by decide) (by kernel_rfl)
                rw [e3]
                exact ⟨by kernel_rfl, rfl⟩
              refine wpG_cons (gskip fun w_ hJ hd => ?_) ?_
              · have e3 : vals 3 = _ := hd 3 (by decide) (by kernel_rfl)
                rw [e3]
                exact ⟨by kernel_rfl, rfl⟩
              refine wpG_cons (gskip fun w_ hJ hd => ?_) ?_
              · have e3 : vals 3 = _ := hd 3 (by decide) (by kernel_rfl)
                rw [e3]
                exact ⟨by kernel_rfl, rfl⟩
              refine wpG_cons (gskip fun w_ hJ hd => ?_) ?_
              · have e3 : vals 3 = _ := hd 3 (by decide) (by kernel_rfl)
                rw [e3]
                exact ⟨by kernel_rfl, rfl⟩
              refine wpG_cons (gskip fun w_ hJ hd => ?_) ?_
              · have e3 : vals 3 = _ := hd 3 (by decide) (by kernel_rfl)
                rw [e3]
                exact ⟨by kernel_rfl, rfl⟩
              refine wpG_cons (gskip fun w_ hJ hd => ?_) ?_
              · have e3 : vals 3 = _ := hd 3 (by decide) (by kernel_rfl)
                rw [e3]
                exact ⟨by kernel_rfl, rfl⟩
              refine wpG_cons (gval (.bool false) (fun _ => trivial) fun w_ hJ hd => ?_) ?_
              · have e3 : vals 3 = _ := hd 3 (by decide) (by kernel_rfl)
                have e13 : vals 13 = _ := hd 13 (by decide) (by kernel_rfl)
                rw [e3, e13]
                exact ⟨by kernel_rfl, by kernel_rfl, rfl⟩
              refine wpG_cons (gval (.bool false) (fun _ => trivial) fun w_ hJ hd => ?_) wpG_nil
              · have e14 : vals 14 = _ := hd 14 (by decide) (by kernel_rfl)
                rw [e14]
                exact ⟨by kernel_rfl, by kernel_rfl, rfl⟩
            · intro vals w_ hJ hf
              have e0 : vals 0 = _ := hf 0 (by decide)
              have e1 : vals 1 = _ := hf 1 (by decide)
              have e2 : vals 2 = _ := hf 2 (by decide)
              have e3 : vals 3 = _ := hf 3 (by decide)
              have e4 : vals 4 = _ := hf 4 (by decide)
              have e5 : vals 5 = _ := hf 5 (by decide)
              have e6 : vals 6 = _ := hf 6 (by decide)
              have e7 : vals 7 = _ := hf 7 (by decide)
              have e8 : vals 8 = _ := hf 8 (by decide)
              have e9 : vals 9 = _ := hf 9 (by decide)
              have e10 : vals 10 = _ := hf 10 (by decide)
              have e11 : vals 11 = _ := hf 11 (by decide)
              have e12 : vals 12 = _ := hf 12 (by decide)
              have e13 : vals 13 = _ := hf 13 (by decide)
              have e14 : vals 14 = _ := hf 14 (by decide)
              have e15 : vals 15 = _ := hf 15 (by decide)
              simp only [fillG, Nat.zero_add, Nat.reduceAdd, e0, e1, e2, e3, e4, e5, e6, e7, e8, e9, e10, e11, e12, e13, e14, e15, Act.put, List.setIfInBounds_toArray, List.set_cons_succ, List.set_cons_zero]
              clear e0 e1 e2 e3 e4 e5 e6 e7 e8 e9 e10 e11 e12 e13 e14 e15 hf
              obtain ⟨hd0, hd1, hd2, _⟩ := cells3f hJ.heap
              have hkl := lt_of_heap' hJ.heap
              clear d0 d1 d2 d3 f0 f1 f2 f3 hbl h2
              obtain ⟨d0, d1, d2, d3, f0, f1, f2, f3⟩ := cells4f hJ.f2.heap
              have hbl := lt_of_heap' hJ.f2.heap
              go_wp2_with (first
                | (at_builtin; refine wpList_append_sl (n := n) (m := 1) rfl _ _ 85 rfl 22 i0 _ 1 8 Tryd.underlying85 hi hz0 hz1 hz2 rfl rfl rfl (hA.slw.alloc _) (Sl.single _ 22 (.int .u64 bh) (by simp)) (by simp; rfl) (by omega) (by omega) ?_; intro v' w' hsl hgr hblk hsp; obtain ⟨A', cap', rfl, _⟩ := hsl.parts; have hB := (hA.alloc _).appendw hsl hgr hblk; clear d0 d1 d2 d3 f0 f1 f2 f3 hbl hsl hgr hblk hsp; obtain ⟨d0, d1, d2, d3, f0, f1, f2, f3⟩ := cells4f hB.f3.heap; have hbl := lt_of_heap' hB.f3.heap)
                | (at_builtin; refine wpList_append_sl (n := 0) (m := n) rfl _ _ 85 rfl 22 i0 _ 1 8 Tryd.underlying85 hi hz0 hz1 hz2 rfl rfl rfl ((hJ.emptyW (sz := 1) 22).slw) (((hJ.f5.slw).alloc _)) (sks_one c) (by omega) (by omega) ?_; intro v' w' hsl hgr hblk hsp; rw [Nat.zero_add, List.nil_append] at hsl; obtain ⟨A', cap', rfl, _⟩ := hsl.parts; have hA := (hJ.emptyW (sz := 1) 22).appendw hsl hgr hblk; clear d0 d1 d2 d3 f0 f1 f2 f3 hbl hsl hgr hblk hsp; obtain ⟨d0, d1, d2, d3, f0, f1, f2, f3⟩ := cells4f hA.f3.heap; have hbl := lt_of_heap' hA.f3.heap)
                | (refine wpList_store_at rfl 85 _ _ rfl b 2 _ rfl rfl rfl rfl (by kernel_rfl) d2 f2 ?_; refine unhide ?_))
              have hcap : n + 1 ≤ cap' := by assumption
              have hC := hB.f3.set 2 (.slice A' (n + 1) cap')
              generalize World.setCell _ ⟨b, 2, none⟩ (.slice A' (n + 1) cap') = w7 at *
              refine hide ?_
              have hC : Heap w0 w7 (HP.blk b #[.slice (some ⟨g1, o1, none⟩) 16 c1, .slice (some ⟨g2, o2, none⟩) 64 c2, .slice A' (n + 1) cap', .slice (some ⟨g4, o4, none⟩) 6 c4] 87 :: HP.slw (.slice A' (n + 1) cap') 1 (n + 1) (sks c ++ [.int .u64 bh]) :: HP.blk k #[.int .u64 x0, .int .u64 x1, .int .i64 3] 96 :: HP.slw (.slice (some ⟨g1, o1, none⟩) 16 c1) 3 16 (rws c) :: HP.slw (.slice (some ⟨g2, o2, none⟩) 64 c2) 1 64 (cts c) :: HP.slw (.slice A3 n c3) 1 n (sks c) :: HP.sl (.slice (some ⟨g4, o4, none⟩) 6 c4) 1 6 (hts c) :: L) := hC
              clear d0 d1 d2 d3 f0 f1 f2 f3 hbl hd0 hd1 hd2 hkl hJ hA hB
              obtain ⟨hd0, hd1, hd2, _⟩ := cells3f hC.f3.heap
              have hkl := lt_of_heap' hC.f3.heap
              obtain ⟨d0, d1, d2, d3, f0, f1, f2, f3⟩ := cells4f hC.heap
              have hbl := lt_of_heap' hC.heap
              have e0 : ∀ i, i < 112 → c i = pushS c bh i := fun i hi => (push_out' hz6 i hi).symm
              by_cases q4 : n = 4
              · subst q4
                obtain ⟨g', o', cp, hv, _⟩ := hC.f2.slw.addr (by omega)
                injection hv with hv _ hv2
                subst hv hv2
                have hT := hC.f2.slw.tail (k := 1) (by omega)
                have hT' : Sl w7 1 (.slice (some ⟨g', o' + 1, none⟩) 4 (cap' - 1)) 4 ((sks c ++ [Value.int .u64 bh]).drop 1) := by simpa [show ¬ cap' = 1 by omega, Addr.add] using hT
                clear hT
                have hD := (hC.f2.cutw hT' (.inl rfl)).f2.set 2 (.slice (some ⟨g', o' + 1, none⟩) 4 (cap' - 1))
                have e3 : 4 = (pushS c bh 116).toNat := by unfold pushS upd; rw [unhide Hcn]; rfl
                have e4 : (sks c ++ [Value.int .u64 bh]).drop 1 = sks (pushS c bh) := by rw [unhide Hsk, unhide Hcn, if_pos (by omega)]
                have e5 : hts c = hts (pushS c bh) := hts_congr (push_117 hz6 bh).symm
                have H3 := hide (And.intro e3 (And.intro e4 e5))
                clear e3 e4 e5 hT'
                go_wp2
                exact bodyPost_ret (v := .int .u64 x1) (by simp [results, Tryd.results39, go_sem]) rfl ⟨by rw [(unhide Ho).2], by rw [(unhide Ho).1]; exact rg_mk3 (unhide Hfin) (rws_congr fun i hi => e0 i (by omega)) (cts_congr fun i hi => e0 _ (by omega)) (unhide H3).1 (unhide H3).2.1 (unhide H3).2.2 hD.f6.tail.f3.tail.f2.b4⟩
              · have z4 : ((n : Int) == 4) = false := by simp; omega
                go_wp2
                have e3 : n + 1 = (pushS c bh 116).toNat := by unfold pushS upd; rw [unhide Hcn, if_neg (by omega), if_pos rfl]; omega
                have e4 : sks c ++ [.int .u64 bh] = sks (pushS c bh) := by rw [unhide Hsk, unhide Hcn, if_neg (by omega)]
                have e5 : hts c = hts (pushS c bh) := hts_congr (push_117 hz6 bh).symm
                exact bodyPost_ret (v := .int .u64 x1) (by simp [results, Tryd.results39, go_sem]) rfl ⟨by rw [(unhide Ho).2], by rw [(unhide Ho).1]; exact rg_mk3 (unhide Hfin) (rws_congr fun i hi => e0 i (by omega)) (cts_congr fun i hi => e0 _ (by omega)) e3 e4 e5 hC.f6.tail.f3.tail.f2.b4⟩
          · by_cases qn : n = 0
            · subst qn
              have hcn := unhide Hcn
              have hout : nSt c pc size = c ∧ nOut c pc size = x1 := by unfold nSt nOut popS; rw [hrk, hcn]; simp [hx1]
              have Ho := hide hout
              clear hout hrk hx2 hk z0 hcn
              go_wp2
              refine wp_region_F (fun w_ => Heap w0 w_ (HP.blk k #[.int .u64 x0, .int .u64 x1, .int .i64 4] 96 :: HP.blk b #[.slice (some ⟨g1, o1, none⟩) 16 c1, .slice (some ⟨g2, o2, none⟩) 64 c2, .slice A3 0 c3, .slice (some ⟨g4, o4, none⟩) 6 c4] 87 :: HP.slw (.slice (some ⟨g1, o1, none⟩) 16 c1) 3 16 (rws c) :: HP.slw (.slice (some ⟨g2, o2, none⟩) 64 c2) 1 64 (cts c) :: HP.slw (.slice A3 0 c3) 1 0 (sks c) :: HP.sl (.slice (some ⟨g4, o4, none⟩) 6 c4) 1 6 (hts c) :: L)) (fun _ _ => True) (fun k_ v_ w_ => match k_ with
                  | 0 => v_ = .pointer (some ⟨k, 2, none⟩)
                  | 1 => v_ = .int .i64 4
                  | 2 => v_ = .bool false
                  | 3 => v_ = .bool false
                  | 4 => v_ = undef
                  | 5 => v_ = undef
                  | 6 => v_ = undef
                  | 7 => v_ = undef
                  | 8 => v_ = undef
                  | 9 => v_ = undef
                  | 10 => v_ = undef
                  | 11 => v_ = undef
                  | 12 => v_ = undef
                  | 13 => v_ = undef
                  | 14 => v_ = .bool false
                  | _ => v_ = .bool false) fol (by kernel_rfl) ?_ ?_ ?_ ?_
              · exact h2.drew
              · intro k_ v_ w_ w2_ h1 hg
                split at h1 <;> exact h1
              · intro vals
                show wpG _ _ _ _ _ _ 0 (_ :: _) _
                refine wpG_cons (gval (.pointer (some ⟨k, 2, none⟩)) (fun _ => trivial) fun w_ hJ hd => ?_) ?_
                · exact ⟨by kernel_rfl, by kernel_rfl, rfl⟩
                refine wpG_cons (gop (Instr.loadAt 3 (.pointer (some ⟨k, 2, none⟩))) (.int .i64 4) (fun _ => trivial) fun w_ hJ hd => ?_) ?_
                · have e0 : vals 0 = _ := hd 0 (by decide) (by kernel_rfl)
                  rw [e0]
                  exact ⟨by kernel_rfl, by kernel_rfl, run_load1 (by kernel_rfl) (cells3f hJ.heap).2.2.1, rfl⟩
                refine wpG_cons (gval (.bool false) (fun _ => trivial) fun w_ hJ hd => ?_) ?_
                · have e1 : vals 1 = _ := hd 1 (by decide) (by kernel_rfl)
                  rw [e1]
                  exact ⟨by kernel_rfl, by kernel_rfl, rfl⟩
                refine wpG_cons (gval (.bool false) (fun _ => trivial) fun w_ hJ hd => ?_) ?_
                · have e2 : vals 2 = _ := hd 2 (by decide) (by kernel_rfl)
                  rw [e2]
                  exact ⟨by kernel_rfl, by kernel_rfl, rfl⟩
                refine wpG_cons (gskip fun w_ hJ hd => ?_) ?_
                · have e3 : vals 3 = _ := hd 3 (by decide) (by kernel_rfl)
                  rw [e3]
                  exact ⟨by kernel_rfl, rfl⟩
                refine wpG_cons (gskip fun w_ hJ hd => ?_) ?_
                · have e3 : vals 3 = _ := hd 3 (by decide) (by kernel_rfl)
                  rw [e3]
                  exact ⟨by kernel_rfl, rfl⟩
                refine wpG_cons (gskip fun w_ hJ hd => ?_) ?_
                · have e3 : vals 3 = _ := hd 3 (by decide) (by kernel_rfl)
                  rw [e3]
                  exact ⟨by kernel_rfl, rfl⟩
                refine wpG_cons (gskip fun w_ hJ hd => ?_) ?_
                · have e3 : vals 3 = _ := hd 3 (by decide) (by kernel_rfl)
                  rw [e3]
                  exact ⟨by kernel_rfl, rfl⟩
                refine wpG_cons (gskip fun w_ hJ hd => ?_) ?_
                · have e3 : vals 3 = _ := hd 3 (by decide) (by kernel_rfl)
                  rw [e3]
                  exact ⟨by kernel_rfl, rfl⟩
                refine wpG_cons (gskip fun w_ hJ hd => ?_) ?_
                · have e3 : vals 3 = _ := hd 3 (by decide) (by kernel_rfl)
                  rw [e3]
                  exact ⟨by kernel_rfl, rfl⟩
                refine wpG_cons (gskip fun w_ hJ hd => ?_) ?_
                · have e3 : vals 3 = _ := hd 3 (by decide) (by kernel_rfl)
                  rw [e3]
                  exact ⟨by kernel_rfl, rfl⟩
                refine wpG_cons (gskip fun w_ hJ hd => ?_) ?_
                · have e3 : vals 3 = _ := hd 3 (by decide) (by kernel_rfl)
                  rw [e3]
                  exact ⟨by kernel_rfl, rfl⟩
                refine wpG_cons (gskip fun w_ hJ hd => ?_) ?_
                · have e3 : vals 3 = _ := hd 3 (by decide) (by kernel_rfl)
                  rw [e3]
                  exact ⟨by kernel_rfl, rfl⟩
                refine wpG_cons (gskip fun w_ hJ hd => ?_) ?_
                · have e3 : vals 3 = _ := hd 3 (by decide) (by kernel_rfl)
                  rw [e3]
                  exact ⟨by kernel_rfl, rfl⟩
                refine wpG_cons (gval (.bool false) (fun _ => trivial) fun w_ hJ hd => ?_) ?_
                · have e3 : vals 3 = _ := hd 3 (by decide) (by kernel_rfl)
                  have e13 : vals 13 = _ := hd 13 (by decide) (by kernel_rfl)
                  rw [e3, e13]
                  exact ⟨by kernel_rfl, by kernel_rfl, rfl⟩
                refine wpG_cons (gval (.bool false) (fun _ => trivial) fun w_ hJ hd => ?_) wpG_nil
                · have e14 : vals 14 = _ := hd 14 (by decide) (by kernel_rfl)
                  rw [e14]
                  exact ⟨by kernel_rfl, by kernel_rfl, rfl⟩
              · intro vals w_ hJ hf
                have e0 : vals 0 = _ := hf 0 (by decide)
                have e1 : vals 1 = _ := hf 1 (by decide)
                have e2 : vals 2 = _ := hf 2 (by decide)
                have e3 : vals 3 = _ := hf 3 (by decide)
                have e4 : vals 4 = _ := hf 4 (by decide)
                have e5 : vals 5 = _ := hf 5 (by decide)
                have e6 : vals 6 = _ := hf 6 (by decide)
                have e7 : vals 7 = _ := hf 7 (by decide)
                have e8 : vals 8 = _ := hf 8 (by decide)
                have e9 : vals 9 = _ := hf 9 (by decide)
                have e10 : vals 10 = _ := hf 10 (by decide)
                have e11 : vals 11 = _ := hf 11 (by decide)
                have e12 : vals 12 = _ := hf 12 (by decide)
                have e13 : vals 13 = _ := hf 13 (by decide)
                have e14 : vals 14 = _ := hf 14 (by decide)
                have e15 : vals 15 = _ := hf 15 (by decide)
                simp only [fillG, Nat.zero_add, Nat.reduceAdd, e0, e1, e2, e3, e4, e5, e6, e7, e8, e9, e10, e11, e12, e13, e14, e15, Act.put, List.setIfInBounds_toArray, List.set_cons_succ, List.set_cons_zero]
                clear e0 e1 e2 e3 e4 e5 e6 e7 e8 e9 e10 e11 e12 e13 e14 e15 hf
                obtain ⟨hd0, hd1, hd2, _⟩ := cells3f hJ.heap
                have hkl := lt_of_heap' hJ.heap
                go_wp2
                exact bodyPost_ret (v := .int .u64 x1) (by simp [results, Tryd.results39, go_sem]) rfl ⟨by rw [(unhide Ho).2], by rw [(unhide Ho).1]; exact rgn (unhide Hn) (unhide HI) hJ.tail⟩
            · have hcn := unhide Hcn
              have hne : c 116 ≠ 0 := by omega
              have hsk := sks_pop hI hne
              have hgp := hI.pop
              have ho : nSt c pc size = popS c ∧ nOut c pc size = c (112 + (n - 1)) := by
                unfold nSt nOut; rw [hrk, hcn]
                simp [qn]
              have e0 : ∀ i, i < 112 → c i = popS c i := fun i hi => by
                unfold popS upd; rw [if_neg hne]; rw [if_neg (by omega), if_neg (by omega)]
              have e7 : hts c = hts (popS c) := hts_congr (by unfold popS upd; rw [if_neg hne]; rw [if_neg (by omega), if_neg (by omega)])
              have e8 : (popS c 116).toNat = n - 1 := by unfold popS upd; rw [if_neg hne]; rw [if_neg (by omega), if_pos rfl]; omega
              have H9 := hide (And.intro ho (And.intro hsk (And.intro hgp (And.intro e0 (And.intro e7 e8)))))
              clear ho hsk hgp e0 e7 e8 hrk hx2 hk z0 hne hcn
              have h14 : n = 1 ∨ n = 2 ∨ n = 3 ∨ n = 4 := by omega
              clear qn
              rcases h14 with rfl | rfl | rfl | rfl
              · go_wp2
                refine wp_region_F (fun w_ => Heap w0 w_ (HP.blk k #[.int .u64 x0, .int .u64 x1, .int .i64 4] 96 :: HP.blk b #[.slice (some ⟨g1, o1, none⟩) 16 c1, .slice (some ⟨g2, o2, none⟩) 64 c2, .slice A3 1 c3, .slice (some ⟨g4, o4, none⟩) 6 c4] 87 :: HP.slw (.slice (some ⟨g1, o1, none⟩) 16 c1) 3 16 (rws c) :: HP.slw (.slice (some ⟨g2, o2, none⟩) 64 c2) 1 64 (cts c) :: HP.slw (.slice A3 1 c3) 1 1 (sks c) :: HP.sl (.slice (some ⟨g4, o4, none⟩) 6 c4) 1 6 (hts c) :: L)) (fun _ _ => True) (fun k_ v_ w_ => match k_ with
                    | 0 => v_ = .pointer (some ⟨k, 2, none⟩)
                    | 1 => v_ = .int .i64 4
                    | 2 => v_ = .bool false
                    | 3 => v_ = .bool false
                    | 4 => v_ = undef
                    | 5 => v_ = undef
                    | 6 => v_ = undef
                    | 7 => v_ = undef
                    | 8 => v_ = undef
                    | 9 => v_ = undef
                    | 10 => v_ = undef
                    | 11 => v_ = undef
                    | 12 => v_ = undef
                    | 13 => v_ = undef
                    | 14 => v_ = .bool false
                    | _ => v_ = .bool false) fol (by kernel_rfl) ?_ ?_ ?_ ?_
                · exact h2.drew
                · intro k_ v_ w_ w2_ h1 hg
                  split at h1 <;> exact h1
                · intro vals
                  show wpG _ _ _ _ _ _ 0 (_ :: _) _
                  refine wpG_cons (gval (.pointer (some ⟨k, 2, none⟩)) (fun _ => trivial) fun w_ hJ hd => ?_) ?_
                  · exact ⟨by kernel_rfl, by kernel_rfl, rfl⟩
                  refine wpG_cons (gop (Instr.loadAt 3 (.pointer (some ⟨k, 2, none⟩))) (.int .i64 4) (fun _ => trivial) fun w_ hJ hd => ?_) ?_
                  · have e0 : vals 0 = _ := hd 0 (by decide) (by kernel_rfl)
                    rw [e0]
                    exact ⟨by kernel_rfl, by kernel_rfl, run_load1 (by kernel_rfl) (cells3f hJ.heap).2.2.1, rfl⟩
                  refine wpG_cons (gval (.bool false) (fun _ => trivial) fun w_ hJ hd => ?_) ?_
                  · have e1 : vals 1 = _ := hd 1 (by decide) (by kernel_rfl)
                    rw [e1]
                    exact ⟨by kernel_rfl, by kernel_rfl, rfl⟩
                  refine wpG_cons (gval (.bool false) (fun _ => trivial) fun w_ hJ hd => ?_) ?_
                  · have e2 : vals 2 = _ := hd 2 (by decide) (by kernel_rfl)
                    rw [e2]
                    exact ⟨by kernel_rfl, by kernel_rfl, rfl⟩
                  refine wpG_cons (gskip fun w_ hJ hd => ?_) ?_
                  · have e3 : vals 3 = _ := hd 3 (by decide) (by kernel_rfl)
                    rw [e3]
                    exact ⟨by kernel_rfl, rfl⟩
                  refine wpG_cons (gskip fun w_ hJ hd => ?_) ?_
                  · have e3 : vals 3 = _ := hd 3 (by decide) (by kernel_rfl)
                    rw [e3]
                    exact ⟨by kernel_rfl, rfl⟩
                  refine wpG_cons (gskip fun w_ hJ hd => ?_) ?_
                  · have e3 : vals 3 = _ := hd 3 (by decide) (by kernel_rfl)
                    rw [e3]
                    exact ⟨by kernel_rfl, rfl⟩
                  refine wpG_cons (gskip fun w_ hJ hd => ?_) ?_
                  · have e3 : vals 3 = _ := hd 3 (by decide) (by kernel_rfl)
                    rw [e3]
                    exact ⟨by kernel_rfl, rfl⟩
                  refine wpG_cons (gskip fun w_ hJ hd => ?_) ?_
                  · have e3 : vals 3 = _ := hd 3 (by decide) (by kernel_rfl)
                    rw [e3]
                    exact ⟨by kernel_rfl, rfl⟩
                  refine wpG_cons (gskip fun w_ hJ hd => ?_) ?_
                  · have e3 : vals 3 = _ := hd 3 (by decide) (by kernel_rfl)
                    rw [e3]
                    exact ⟨by kernel_rfl, rfl⟩
                  refine wpG_cons (gskip fun w_ hJ hd => ?_) ?_
                  · have e3 : vals 3 = _ := hd 3 (by decide) (by kernel_rfl)
                    rw [e3]
                    exact ⟨by kernel_rfl, rfl⟩
                  refine wpG_cons (gskip fun w_ hJ hd => ?_) ?_
                  · have e3 : vals 3 = _ := hd 3 (by decide) (by kernel_rfl)
                    rw [e3]
                    exact ⟨by kernel_rfl, rfl⟩
                  refine wpG_cons (gskip fun w_ hJ hd => ?_) ?_
                  · have e3 : vals 3 = _ := hd 3 (by decide) (by kernel_rfl)
                    rw [e3]
                    exact ⟨by kernel_rfl, rfl⟩
                  refine wpG_cons (gskip fun w_ hJ hd => ?_) ?_
                  · have e3 : vals 3 = _ := hd 3 (by decide) (by kernel_rfl)
                    rw [e3]
                    exact ⟨by kernel_rfl, rfl⟩
                  refine wpG_cons (gval (.bool false) (fun _ => trivial) fun w_ hJ hd => ?_) ?_
                  · have e3 : vals 3 = _ := hd 3 (by decide) (by kernel_rfl)
                    have e13 : vals 13 = _ := hd 13 (by decide) (by kernel_rfl)
                    rw [e3, e13]
                    exact ⟨by kernel_rfl, by kernel_rfl, rfl⟩
                  refine wpG_cons (gval (.bool false) (fun _ => trivial) fun w_ hJ hd => ?_) wpG_nil
                  · have e14 : vals 14 = _ := hd 14 (by decide) (by kernel_rfl)
                    rw [e14]
                    exact ⟨by kernel_rfl, by kernel_rfl, rfl⟩
                · intro vals w_ hJ hf
                  have e0 : vals 0 = _ := hf 0 (by decide)
                  have e1 : vals 1 = _ := hf 1 (by decide)
                  have e2 : vals 2 = _ := hf 2 (by decide)
                  have e3 : vals 3 = _ := hf 3 (by decide)
                  have e4 : vals 4 = _ := hf 4 (by decide)
                  have e5 : vals 5 = _ := hf 5 (by decide)
                  have e6 : vals 6 = _ := hf 6 (by decide)
                  have e7 : vals 7 = _ := hf 7 (by decide)
                  have e8 : vals 8 = _ := hf 8 (by decide)
                  have e9 : vals 9 = _ := hf 9 (by decide)
                  have e10 : vals 10 = _ := hf 10 (by decide)
                  have e11 : vals 11 = _ := hf 11 (by decide)
                  have e12 : vals 12 = _ := hf 12 (by decide)
                  have e13 : vals 13 = _ := hf 13 (by decide)
                  have e14 : vals 14 = _ := hf 14 (by decide)
                  have e15 : vals 15 = _ := hf 15 (by decide)
                  simp only [fillG, Nat.zero_add, Nat.reduceAdd, e0, e1, e2, e3, e4, e5, e6, e7, e8, e9, e10, e11, e12, e13, e14, e15, Act.put, List.setIfInBounds_toArray, List.set_cons_succ, List.set_cons_zero]
                  clear e0 e1 e2 e3 e4 e5 e6 e7 e8 e9 e10 e11 e12 e13 e14 e15 hf
                  obtain ⟨hd0, hd1, hd2, _⟩ := cells3f hJ.heap
                  have hkl := lt_of_heap' hJ.heap
                  clear d0 d1 d2 d3 f0 f1 f2 f3 hbl h2
                  obtain ⟨d0, d1, d2, d3, f0, f1, f2, f3⟩ := cells4f hJ.f2.heap
                  have hbl := lt_of_heap' hJ.f2.heap
                  obtain ⟨g3, o3, cp, hv, hcp⟩ := hJ.f5.slw.addr (by omega)
                  injection hv with hv _ hv2
                  subst hv hv2
                  obtain ⟨t1, t2, _⟩ := hJ.f5.slw.at_ (j := 0) (by omega)
                  rw [sks_get, unhide Hn, if_pos (by omega)] at t2
                  try rw [Nat.add_zero] at t2
                  have hF := hJ.f5.slw.front (k := 0) (c := c3) (by omega) (by omega) (Nat.le_refl _)
                  have hD := (hJ.f5.cutw hF (.inl rfl)).f3.set 2 (.slice (some ⟨g3, o3, none⟩) 0 c3)
                  obtain ⟨ho, hsk, hgp, e0, e7, e8⟩ := unhide H9
                  have e9 : (popS c 116).toNat = 0 := e8
                  have e10 : (sks c).take (0 * 1) = sks (popS c) := by rw [hsk, unhide Hcn]; rfl
                  have H3 := hide (And.intro ho (And.intro hgp (And.intro e0 (And.intro e7 (And.intro e9 e10)))))
                  clear ho hsk hgp e0 e7 e8 e9 e10 hF H9
                  go_wp2
                  obtain ⟨ho, hgp, e0, e7, e9, e10⟩ := unhide H3
                  exact bodyPost_ret (v := .int .u64 (c (112 + 0))) (by simp [results, Tryd.results39, go_sem]) rfl ⟨by rw [ho.2], by rw [ho.1]; exact rg_mk3 hgp (rws_congr fun i hi => e0 i (by omega)) (cts_congr fun i hi => e0 _ (by omega)) e9.symm e10 e7 hD.f3.tail.f2.b4⟩
              · go_wp2
                refine wp_region_F (fun w_ => Heap w0 w_ (HP.blk k #[.int .u64 x0, .int .u64 x1, .int .i64 4] 96 :: HP.blk b #[.slice (some ⟨g1, o1, none⟩) 16 c1, .slice (some ⟨g2, o2, none⟩) 64 c2, .slice A3 2 c3, .slice (some ⟨g4, o4, none⟩) 6 c4] 87 :: HP.slw (.slice (some ⟨g1, o1, none⟩) 16 c1) 3 16 (rws c) :: HP.slw (.slice (some ⟨g2, o2, none⟩) 64 c2) 1 64 (cts c) :: HP.slw (.slice A3 2 c3) 1 2 (sks c) :: HP.sl (.slice (some ⟨g4, o4, none⟩) 6 c4) 1 6 (hts c) :: L)) (fun _ _ => True) (fun k_ v_ w_ => match k_ with
                    | 0 => v_ = .pointer (some ⟨k, 2, none⟩)
                    | 1 => v_ = .int .i64 4
                    | 2 => v_ = .bool false
                    | 3 => v_ = .bool false
                    | 4 => v_ = undef
                    | 5 => v_ = undef
                    | 6 => v_ = undef
                    | 7 => v_ = undef
                    | 8 => v_ = undef
                    | 9 => v_ = undef
                    | 10 => v_ = undef
                    | 11 => v_ = undef
                    | 12 => v_ = undef
                    | 13 => v_ = undef
                    | 14 => v_ = .bool false
                    | _ => v_ = .bool false) fol (by kernel_rfl) ?_ ?_ ?_ ?_
                · exact h2.drew
                · intro k_ v_ w_ w2_ h1 hg
                  split at h1 <;> exact h1
                · intro vals
                  show wpG _ _ _ _ _ _ 0 (_ :: _) _
                  refine wpG_cons (gval (.pointer (some ⟨k, 2, none⟩)) (fun _ => trivial) fun w_ hJ hd => ?_) ?_
                  · exact ⟨by kernel_rfl, by kernel_rfl, rfl⟩
                  refine wpG_cons (gop (Instr.loadAt 3 (.pointer (some ⟨k, 2, none⟩))) (.int .i64 4) (fun _ => trivial) fun w_ hJ hd => ?_) ?_
                  · have e0 : vals 0 = _ := hd 0 (by decide) (by kernel_rfl)
                    rw [e0]
                    exact ⟨by kernel_rfl, by kernel_rfl, run_load1 (by kernel_rfl) (cells3f hJ.heap).2.2.1, rfl⟩
                  refine wpG_cons (gval (.bool false) (fun _ => trivial) fun w_ hJ hd => ?_) ?_
                  · have e1 : vals 1 = _ := hd 1 (by decide) (by kernel_rfl)
                    rw [e1]
                    exact ⟨by kernel_rfl, by kernel_rfl, rfl⟩
                  refine wpG_cons (gval (.bool false) (fun _ => trivial) fun w_ hJ hd => ?_) ?_
                  · have e2 : vals 2 = _ := hd 2 (by decide) (by kernel_rfl)
                    rw [e2]
                    exact ⟨by kernel_rfl, by kernel_rfl, rfl⟩
                  refine wpG_cons (gskip fun w_ hJ hd => ?_) ?_
                  · have e3 : vals 3 = _ := hd 3 (by decide) (by kernel_rfl)
                    rw [e3]
                    exact ⟨by kernel_rfl, rfl⟩
                  refine wpG_cons (gskip fun w_ hJ hd => ?_) ?_
                  · have e3 : vals 3 = _ := hd 3 (by decide) (by kernel_rfl)
                    rw [e3]
                    exact ⟨by kernel_rfl, rfl⟩
                  refine wpG_cons (gskip fun w_ hJ hd => ?_) ?_
                  · have e3 : vals 3 = _ := hd 3 (by decide) (by kernel_rfl)
                    rw [e3]
                    exact ⟨by kernel_rfl, rfl⟩
                  refine wpG_cons (gskip fun w_ hJ hd => ?_) ?_
                  · have e3 : vals 3 = _ := hd 3 (by decide) (by kernel_rfl)
                    rw [e3]
                    exact ⟨by kernel_rfl, rfl⟩
                  refine wpG_cons (gskip fun w_ hJ hd => ?_) ?_
                  · have e3 : vals 3 = _ := hd 3 (by decide) (by kernel_rfl)
                    rw [e3]
                    exact ⟨by kernel_rfl, rfl⟩
                  refine wpG_cons (gskip fun w_ hJ hd => ?_) ?_
                  · have e3 : vals 3 = _ := hd 3 (by decide) (by kernel_rfl)
                    rw [e3]
                    exact ⟨by kernel_rfl, rfl⟩
                  refine wpG_cons (gskip fun w_ hJ hd => ?_) ?_
                  · have e3 : vals 3 = _ := hd 3 (by decide) (by kernel_rfl)
                    rw [e3]
                    exact ⟨by kernel_rfl, rfl⟩
                  refine wpG_cons (gskip fun w_ hJ hd => ?_) ?_
                  · have e3 : vals 3 = _ := hd 3 (by decide) (by kernel_rfl)
                    rw [e3]
                    exact ⟨by kernel_rfl, rfl⟩
                  refine wpG_cons (gskip fun w_ hJ hd => ?_) ?_
                  · have e3 : vals 3 = _ := hd 3 (by decide) (by kernel_rfl)
                    rw [e3]
                    exact ⟨by kernel_rfl, rfl⟩
                  refine wpG_cons (gskip fun w_ hJ hd => ?_) ?_
                  · have e3 : vals 3 = _ := hd 3 (by decide) (by kernel_rfl)
                    rw [e3]
                    exact ⟨by kernel_rfl, rfl⟩
                  refine wpG_cons (gval (.bool false) (fun _ => trivial) fun w_ hJ hd => ?_) ?_
                  · have e3 : vals 3 = _ := hd 3 (by decide) (by kernel_rfl)
                    have e13 : vals 13 = _ := hd 13 (by decide) (by kernel_rfl)
                    rw [e3, e13]
                    exact ⟨by kernel_rfl, by kernel_rfl, rfl⟩
                  refine wpG_cons (gval (.bool false) (fun _ => trivial) fun w_ hJ hd => ?_) wpG_nil
                  · have e14 : vals 14 = _ := hd 14 (by decide) (by kernel_rfl)
                    rw [e14]
                    exact ⟨by kernel_rfl, by kernel_rfl, rfl⟩
                · intro vals w_ hJ hf
                  have e0 : vals 0 = _ := hf 0 (by decide)
                  have e1 : vals 1 = _ := hf 1 (by decide)
                  have e2 : vals 2 = _ := hf 2 (by decide)
                  have e3 : vals 3 = _ := hf 3 (by decide)
                  have e4 : vals 4 = _ := hf 4 (by decide)
                  have e5 : vals 5 = _ := hf 5 (by decide)
                  have e6 : vals 6 = _ := hf 6 (by decide)
                  have e7 : vals 7 = _ := hf 7 (by decide)
                  have e8 : vals 8 = _ := hf 8 (by decide)
                  have e9 : vals 9 = _ := hf 9 (by decide)
                  have e10 : vals 10 = _ := hf 10 (by decide)
                  have e11 : vals 11 = _ := hf 11 (by decide)
                  have e12 : vals 12 = _ := hf 12 (by decide)
                  have e13 : vals 13 = _ := hf 13 (by decide)
                  have e14 : vals 14 = _ := hf 14 (by decide)
                  have e15 : vals 15 = _ := hf 15 (by decide)
                  simp only [fillG, Nat.zero_add, Nat.reduceAdd, e0, e1, e2, e3, e4, e5, e6, e7, e8, e9, e10, e11, e12, e13, e14, e15, Act.put, List.setIfInBounds_toArray, List.set_cons_succ, List.set_cons_zero]
                  clear e0 e1 e2 e3 e4 e5 e6 e7 e8 e9 e10 e11 e12 e13 e14 e15 hf
                  obtain ⟨hd0, hd1, hd2, _⟩ := cells3f hJ.heap
                  have hkl := lt_of_heap' hJ.heap
                  clear d0 d1 d2 d3 f0 f1 f2 f3 hbl h2
                  obtain ⟨d0, d1, d2, d3, f0, f1, f2, f3⟩ := cells4f hJ.f2.heap
                  have hbl := lt_of_heap' hJ.f2.heap
                  obtain ⟨g3, o3, cp, hv, hcp⟩ := hJ.f5.slw.addr (by omega)
                  injection hv with hv _ hv2
                  subst hv hv2
                  obtain ⟨t1, t2, _⟩ := hJ.f5.slw.at_ (j := 1) (by omega)
                  rw [sks_get, unhide Hn, if_pos (by omega)] at t2
                  try rw [Nat.add_zero] at t2
                  have hF := hJ.f5.slw.front (k := 1) (c := c3) (by omega) (by omega) (Nat.le_refl _)
                  have hD := (hJ.f5.cutw hF (.inl rfl)).f3.set 2 (.slice (some ⟨g3, o3, none⟩) 1 c3)
                  obtain ⟨ho, hsk, hgp, e0, e7, e8⟩ := unhide H9
                  have e9 : (popS c 116).toNat = 1 := e8
                  have e10 : (sks c).take (1 * 1) = sks (popS c) := by rw [hsk, unhide Hcn]; rfl
                  have H3 := hide (And.intro ho (And.intro hgp (And.intro e0 (And.intro e7 (And.intro e9 e10)))))
                  clear ho hsk hgp e0 e7 e8 e9 e10 hF H9
                  go_wp2
                  obtain ⟨ho, hgp, e0, e7, e9, e10⟩ := unhide H3
                  exact bodyPost_ret (v := .int .u64 (c (112 + 1))) (by simp [results, Tryd.results39, go_sem]) rfl ⟨by rw [ho.2], by rw [ho.1]; exact rg_mk3 hgp (rws_congr fun i hi => e0 i (by omega)) (cts_congr fun i hi => e0 _ (by omega)) e9.symm e10 e7 hD.f3.tail.f2.b4⟩
              · go_wp2
                refine wp_region_F (fun w_ => Heap w0 w_ (HP.blk k #[.int .u64 x0, .int .u64 x1, .int .i64 4] 96 :: HP.blk b #[.slice (some ⟨g1, o1, none⟩) 16 c1, .slice (some ⟨g2, o2, none⟩) 64 c2, .slice A3 3 c3, .slice (some ⟨g4, o4, none⟩) 6 c4] 87 :: HP.slw (.slice (some ⟨g1, o1, none⟩) 16 c1) 3 16 (rws c) :: HP.slw (.slice (some ⟨g2, o2, none⟩) 64 c2) 1 64 (cts c) :: HP.slw (.slice A3 3 c3) 1 3 (sks c) :: HP.sl (.slice (some ⟨g4, o4, none⟩) 6 c4) 1 6 (hts c) :: L)) (fun _ _ => True) (fun k_ v_ w_ => match k_ with
                    | 0 => v_ = .pointer (some ⟨k, 2, none⟩)
                    | 1 => v_ = .int .i64 4
                    | 2 => v_ = .bool false
                    | 3 => v_ = .bool false
                    | 4 => v_ = undef
                    | 5 => v_ = undef
                    | 6 => v_ = undef
                    | 7 => v_ = undef
                    | 8 => v_ = undef
                    | 9 => v_ = undef
                    | 10 => v_ = undef
                    | 11 => v_ = undef
                    | 12 => v_ = undef
                    | 13 => v_ = undef
                    | 14 => v_ = .bool false
                    | _ => v_ = .bool false) fol (by kernel_rfl) ?_ ?_ ?_ ?_
                · exact h2.drew
                · intro k_ v_ w_ w2_ h1 hg
                  split at h1 <;> exact h1
                · intro vals
                  show wpG _ _ _ _ _ _ 0 (_ :: _) _
                  refine wpG_cons (gval (.pointer (some ⟨k, 2, none⟩)) (fun _ => trivial) fun w_ hJ hd => ?_) ?_
                  · exact ⟨by kernel_rfl, by kernel_rfl, rfl⟩
                  refine wpG_cons (gop (Instr.loadAt 3 (.pointer (some ⟨k, 2, none⟩))) (.int .i64 4) (fun _ => trivial) fun w_ hJ hd => ?_) ?_
                  · have e0 : vals 0 = _ := hd 0 (by decide) (by kernel_rfl)
                    rw [e0]
                    exact ⟨by kernel_rfl, by kernel_rfl, run_load1 (by kernel_rfl) (cells3f hJ.heap).2.2.1, rfl⟩
                  refine wpG_cons (gval (.bool false) (fun _ => trivial) fun w_ hJ hd => ?_) ?_
                  · have e1 : vals 1 = _ := hd 1 (by decide) (by kernel_rfl)
                    rw [e1]
                    exact ⟨by kernel_rfl, by kernel_rfl, rfl⟩
                  refine wpG_cons (gval (.bool false) (fun _ => trivial) fun w_ hJ hd => ?_) ?_
                  · have e2 : vals 2 = _ := hd 2 (by decide) (by kernel_rfl)
                    rw [e2]
                    exact ⟨by kernel_rfl, by kernel_rfl, rfl⟩
                  refine wpG_cons (gskip fun w_ hJ hd => ?_) ?_
                  · have e3 : vals 3 = _ := hd 3 (by decide) (by kernel_rfl)
                    rw [e3]
                    exact ⟨by kernel_rfl, rfl⟩
                  refine wpG_cons (gskip fun w_ hJ hd => ?_) ?_
                  · have e3 : vals 3 = _ := hd 3 (by decide) (by kernel_rfl)
                    rw [e3]
                    exact ⟨by kernel_rfl, rfl⟩
                  refine wpG_cons (gskip fun w_ hJ hd => ?_) ?_
                  · have e3 : vals 3 = _ := hd 3 (by decide) (by kernel_rfl)
                    rw [e3]
                    exact ⟨by kernel_rfl, rfl⟩
                  refine wpG_cons (gskip fun w_ hJ hd => ?_) ?_
                  · have e3 : vals 3 = _ := hd 3 (by decide) (by kernel_rfl)
                    rw [e3]
                    exact ⟨by kernel_rfl, rfl⟩
                  refine wpG_cons (gskip fun w_ hJ hd => ?_) ?_
                  · have e3 : vals 3 = _ := hd 3 (by decide) (by kernel_rfl)
                    rw [e3]
                    exact ⟨by kernel_rfl, rfl⟩
                  refine wpG_cons (gskip fun w_ hJ hd => ?_) ?_
                  · have e3 : vals 3 = _ := hd 3 (by decide) (by kernel_rfl)
                    rw [e3]
                    exact ⟨by kernel_rfl, rfl⟩
                  refine wpG_cons (gskip fun w_ hJ hd => ?_) ?_
                  · have e3 : vals 3 = _ := hd 3 (by decide) (by kernel_rfl)
                    rw [e3]
                    exact ⟨by kernel_rfl, rfl⟩
                  refine wpG_cons (gskip fun w_ hJ hd => ?_) ?_
                  · have e3 : vals 3 = _ := hd 3 (by decide) (by kernel_rfl)
                    rw [e3]
                    exact ⟨by kernel_rfl, rfl⟩
                  refine wpG_cons (gskip fun w_ hJ hd => ?_) ?_
                  · have e3 : vals 3 = _ := hd 3 (by decide) (by kernel_rfl)
                    rw [e3]
                    exact ⟨by kernel_rfl, rfl⟩
                  refine wpG_cons (gskip fun w_ hJ hd => ?_) ?_
                  · have e3 : vals 3 = _ := hd 3 (by decide) (by kernel_rfl)
                    rw [e3]
                    exact ⟨by kernel_rfl, rfl⟩
                  refine wpG_cons (gval (.bool false) (fun _ => trivial) fun w_ hJ hd => ?_) ?_
                  · have e3 : vals 3 = _ := hd 3 (by decide) (by kernel_rfl)
                    have e13 : vals 13 = _ := hd 13 (by decide) (by kernel_rfl)
                    rw [e3, e13]
                    exact ⟨by kernel_rfl, by kernel_rfl, rfl⟩
                  refine wpG_cons (gval (.bool false) (fun _ => trivial) fun w_ hJ hd => ?_) wpG_nil
                  · have e14 : vals 14 = _ := hd 14 (by decide) (by kernel_rfl)
                    rw [e14]
                    exact ⟨by kernel_rfl, by kernel_rfl, rfl⟩
                · intro vals w_ hJ hf
                  have e0 : vals 0 = _ := hf 0 (by decide)
                  have e1 : vals 1 = _ := hf 1 (by decide)
                  have e2 : vals 2 = _ := hf 2 (by decide)
                  have e3 : vals 3 = _ := hf 3 (by decide)
                  have e4 : vals 4 = _ := hf 4 (by decide)
                  have e5 : vals 5 = _ := hf 5 (by decide)
                  have e6 : vals 6 = _ := hf 6 (by decide)
                  have e7 : vals 7 = _ := hf 7 (by decide)
                  have e8 : vals 8 = _ := hf 8 (by decide)
                  have e9 : vals 9 = _ := hf 9 (by decide)
                  have e10 : vals 10 = _ := hf 10 (by decide)
                  have e11 : vals 11 = _ := hf 11 (by decide)
                  have e12 : vals 12 = _ := hf 12 (by decide)
                  have e13 : vals 13 = _ := hf 13 (by decide)
                  have e14 : vals 14 = _ := hf 14 (by decide)
                  have e15 : vals 15 = _ := hf 15 (by decide)
                  simp only [fillG, Nat.zero_add, Nat.reduceAdd, e0, e1, e2, e3, e4, e5, e6, e7, e8, e9, e10, e11, e12, e13, e14, e15, Act.put, List.setIfInBounds_toArray, List.set_cons_succ, List.set_cons_zero]
                  clear e0 e1 e2 e3 e4 e5 e6 e7 e8 e9 e10 e11 e12 e13 e14 e15 hf
                  obtain ⟨hd0, hd1, hd2, _⟩ := cells3f hJ.heap
                  have hkl := lt_of_heap' hJ.heap
                  clear d0 d1 d2 d3 f0 f1 f2 f3 hbl h2
                  obtain ⟨d0, d1, d2, d3, f0, f1, f2, f3⟩ := cells4f hJ.f2.heap
                  have hbl := lt_of_heap' hJ.f2.heap
                  obtain ⟨g3, o3, cp, hv, hcp⟩ := hJ.f5.slw.addr (by omega)
                  injection hv with hv _ hv2
                  subst hv hv2
                  obtain ⟨t1, t2, _⟩ := hJ.f5.slw.at_ (j := 2) (by omega)
                  rw [sks_get, unhide Hn, if_pos (by omega)] at t2
                  try rw [Nat.add_zero] at t2
                  have hF := hJ.f5.slw.front (k := 2) (c := c3) (by omega) (by omega) (Nat.le_refl _)
                  have hD := (hJ.f5.cutw hF (.inl rfl)).f3.set 2 (.slice (some ⟨g3, o3, none⟩) 2 c3)
                  obtain ⟨ho, hsk, hgp, e0, e7, e8⟩ := unhide H9
                  have e9 : (popS c 116).toNat = 2 := e8
                  have e10 : (sks c).take (2 * 1) = sks (popS c) := by rw [hsk, unhide Hcn]; rfl
                  have H3 := hide (And.intro ho (And.intro hgp (And.intro e0 (And.intro e7 (And.intro e9 e10)))))
                  clear ho hsk hgp e0 e7 e8 e9 e10 hF H9
                  go_wp2
                  obtain ⟨ho, hgp, e0, e7, e9, e10⟩ := unhide H3
                  exact bodyPost_ret (v := .int .u64 (c (112 + 2))) (by simp [results, Tryd.results39, go_sem]) rfl ⟨by rw [ho.2], by rw [ho.1]; exact rg_mk3 hgp (rws_congr fun i hi => e0 i (by omega)) (cts_congr fun i hi => e0 _ (by omega)) e9.symm e10 e7 hD.f3.tail.f2.b4⟩
              · go_wp2
                refine wp_region_F (fun w_ => Heap w0 w_ (HP.blk k #[.int .u64 x0, .int .u64 x1, .int .i64 4] 96 :: HP.blk b #[.slice (some ⟨g1, o1, none⟩) 16 c1, .slice (some ⟨g2, o2, none⟩) 64 c2, .slice A3 4 c3, .slice (some ⟨g4, o4, none⟩) 6 c4] 87 :: HP.slw (.slice (some ⟨g1, o1, none⟩) 16 c1) 3 16 (rws c) :: HP.slw (.slice (some ⟨g2, o2, none⟩) 64 c2) 1 64 (cts c) :: HP.slw (.slice A3 4 c3) 1 4 (sks c) :: HP.sl (.slice (some ⟨g4, o4, none⟩) 6 c4) 1 6 (hts c) :: L)) (fun _ _ => True) (fun k_ v_ w_ => match k_ with
                    | 0 => v_ = .pointer (some ⟨k, 2, none⟩)
                    | 1 => v_ = .int .i64 4
                    | 2 => v_ = .bool false
                    | 3 => v_ = .bool false
                    | 4 => v_ = undef
                    | 5 => v_ = undef
                    | 6 => v_ = undef
                    | 7 => v_ = undef
                    | 8 => v_ = undef
                    | 9 => v_ = undef
                    | 10 => v_ = undef
                    | 11 => v_ = undef
                    | 12 => v_ = undef
                    | 13 => v_ = undef
                    | 14 => v_ = .bool false
                    | _ => v_ = .bool false) fol (by kernel_rfl) ?_ ?_ ?_ ?_
                · exact h2.drew
                · intro k_ v_ w_ w2_ h1 hg
                  split at h1 <;> exact h1
                · intro vals
                  show wpG _ _ _ _ _ _ 0 (_ :: _) _
                  refine wpG_cons (gval (.pointer (some ⟨k, 2, none⟩)) (fun _ => trivial) fun w_ hJ hd => ?_) ?_
                  · exact ⟨by kernel_rfl, by kernel_rfl, rfl⟩
                  refine wpG_cons (gop (Instr.loadAt 3 (.pointer (some ⟨k, 2, none⟩))) (.int .i64 4) (fun _ => trivial) fun w_ hJ hd => ?_) ?_
                  · have e0 : vals 0 = _ := hd 0 (by decide) (by kernel_rfl)
                    rw [e0]
                    exact ⟨by kernel_rfl, by kernel_rfl, run_load1 (by kernel_rfl) (cells3f hJ.heap).2.2.1, rfl⟩
                  refine wpG_cons (gval (.bool false) (fun _ => trivial) fun w_ hJ hd => ?_) ?_
                  · have e1 : vals 1 = _ := hd 1 (by decide) (by kernel_rfl)
                    rw [e1]
                    exact ⟨by kernel_rfl, by kernel_rfl, rfl⟩
                  refine wpG_cons (gval (.bool false) (fun _ => trivial) fun w_ hJ hd => ?_) ?_
                  · have e2 : vals 2 = _ := hd 2 (by decide) (by kernel_rfl)
                    rw [e2]
                    exact ⟨by kernel_rfl, by kernel_rfl, rfl⟩
                  refine wpG_cons (gskip fun w_ hJ hd => ?_) ?_
                  · have e3 : vals 3 = _ := hd 3 (by decide) (by kernel_rfl)
                    rw [e3]
                    exact ⟨by kernel_rfl, rfl⟩
                  refine wpG_cons (gskip fun w_ hJ hd => ?_) ?_
                  · have e3 : vals 3 = _ := hd 3 (by decide) (by kernel_rfl)
                    rw [e3]
                    exact ⟨by kernel_rfl, rfl⟩
                  refine wpG_cons (gskip fun w_ hJ hd => ?_) ?_
                  · have e3 : vals 3 = _ := hd 3 (by decide) (by kernel_rfl)
                    rw [e3]
                    exact ⟨by kernel_rfl, rfl⟩
                  refine wpG_cons (gskip fun w_ hJ hd => ?_) ?_
                  · have e3 : vals 3 = _ := hd 3 (by decide) (by kernel_rfl)
                    rw [e3]
                    exact ⟨by kernel_rfl, rfl⟩
                  refine wpG_cons (gskip fun w_ hJ hd => ?_) ?_
                  · have e3 : vals 3 = _ := hd 3 (by decide) (by kernel_rfl)
                    rw [e3]
                    exact ⟨by kernel_rfl, rfl⟩
                  refine wpG_cons (gskip fun w_ hJ hd => ?_) ?_
                  · have e3 : vals 3 = _ := hd 3 (by decide) (by kernel_rfl)
                    rw [e3]
                    exact ⟨by kernel_rfl, rfl⟩
                  refine wpG_cons (gskip fun w_ hJ hd => ?_) ?_
                  · have e3 : vals 3 = _ := hd 3 (by decide) (by kernel_rfl)
                    rw [e3]
                    exact ⟨by kernel_rfl, rfl⟩
                  refine wpG_cons (gskip fun w_ hJ hd => ?_) ?_
                  · have e3 : vals 3 = _ := hd 3 (by decide) (by kernel_rfl)
                    rw [e3]
                    exact ⟨by kernel_rfl, rfl⟩
                  refine wpG_cons (gskip fun w_ hJ hd => ?_) ?_
                  · have e3 : vals 3 = _ := hd 3 (by decide) (by kernel_rfl)
                    rw [e3]
                    exact ⟨by kernel_rfl, rfl⟩
                  refine wpG_cons (gskip fun w_ hJ hd => ?_) ?_
                  · have e3 : vals 3 = _ := hd 3 (by decide) (by kernel_rfl)
                    rw [e3]
                    exact ⟨by kernel_rfl, rfl⟩
                  refine wpG_cons (gval (.bool false) (fun _ => trivial) fun w_ hJ hd => ?_) ?_
                  · have e3 : vals 3 = _ := hd 3 (by decide) (by kernel_rfl)
                    have e13 : vals 13 = _ := hd 13 (by decide) (by kernel_rfl)
                    rw [e3, e13]
                    exact ⟨by kernel_rfl, by kernel_rfl, rfl⟩
                  refine wpG_cons (gval (.bool false) (fun _ => trivial) fun w_ hJ hd => ?_) wpG_nil
                  · have e14 : vals 14 = _ := hd 14 (by decide) (by kernel_rfl)
                    rw [e14]
                    exact ⟨by kernel_rfl, by kernel_rfl, rfl⟩
                · intro vals w_ hJ hf
                  have e0 : vals 0 = _ := hf 0 (by decide)
                  have e1 : vals 1 = _ := hf 1 (by decide)
                  have e2 : vals 2 = _ := hf 2 (by decide)
                  have e3 : vals 3 = _ := hf 3 (by decide)
                  have e4 : vals 4 = _ := hf 4 (by decide)
                  have e5 : vals 5 = _ := hf 5 (by decide)
                  have e6 : vals 6 = _ := hf 6 (by decide)
                  have e7 : vals 7 = _ := hf 7 (by decide)
                  have e8 : vals 8 = _ := hf 8 (by decide)
                  have e9 : vals 9 = _ := hf 9 (by decide)
                  have e10 : vals 10 = _ := hf 10 (by decide)
                  have e11 : vals 11 = _ := hf 11 (by decide)
                  have e12 : vals 12 = _ := hf 12 (by decide)
                  have e13 : vals 13 = _ := hf 13 (by decide)
                  have e14 : vals 14 = _ := hf 14 (by decide)
                  have e15 : vals 15 = _ := hf 15 (by decide)
                  simp only [fillG, Nat.zero_add, Nat.reduceAdd, e0, e1, e2, e3, e4, e5, e6, e7, e8, e9, e10, e11, e12, e13, e14, e15, Act.put, List.setIfInBounds_toArray, List.set_cons_succ, List.set_cons_zero]
                  clear e0 e1 e2 e3 e4 e5 e6 e7 e8 e9 e10 e11 e12 e13 e14 e15 hf
                  obtain ⟨hd0, hd1, hd2, _⟩ := cells3f hJ.heap
                  have hkl := lt_of_heap' hJ.heap
                  clear d0 d1 d2 d3 f0 f1 f2 f3 hbl h2
                  obtain ⟨d0, d1, d2, d3, f0, f1, f2, f3⟩ := cells4f hJ.f2.heap
                  have hbl := lt_of_heap' hJ.f2.heap
                  obtain ⟨g3, o3, cp, hv, hcp⟩ := hJ.f5.slw.addr (by omega)
                  injection hv with hv _ hv2
                  subst hv hv2
                  obtain ⟨t1, t2, _⟩ := hJ.f5.slw.at_ (j := 3) (by omega)
                  rw [sks_get, unhide Hn, if_pos (by omega)] at t2
                  try rw [Nat.add_zero] at t2
                  have hF := hJ.f5.slw.front (k := 3) (c := c3) (by omega) (by omega) (Nat.le_refl _)
                  have hD := (hJ.f5.cutw hF (.inl rfl)).f3.set 2 (.slice (some ⟨g3, o3, none⟩) 3 c3)
                  obtain ⟨ho, hsk, hgp, e0, e7, e8⟩ := unhide H9
                  have e9 : (popS c 116).toNat = 3 := e8
                  have e10 : (sks c).take (3 * 1) = sks (popS c) := by rw [hsk, unhide Hcn]; rfl
                  have H3 := hide (And.intro ho (And.intro hgp (And.intro e0 (And.intro e7 (And.intro e9 e10)))))
                  clear ho hsk hgp e0 e7 e8 e9 e10 hF H9
                  go_wp2
                  obtain ⟨ho, hgp, e0, e7, e9, e10⟩ := unhide H3
                  exact bodyPost_ret (v := .int .u64 (c (112 + 3))) (by simp [results, Tryd.results39, go_sem]) rfl ⟨by rw [ho.2], by rw [ho.1]; exact rg_mk3 hgp (rws_congr fun i hi => e0 i (by omega)) (cts_congr fun i hi => e0 _ (by omega)) e9.symm e10 e7 hD.f3.tail.f2.b4⟩
        · have zq : (x0 != pc) = true := by simp [q]
          have hz : rk c pc = 0 := by unfold rk; rw [hx0, if_neg q]
          have e1 : nOut c pc size = behind pc size ∧ nSt c pc size = c := by unfold nOut nSt; rw [hz]; simp
          have E1 := hide e1
          clear e1 hz hx0 hx1 hx2 q
          go_wp2
          exact bodyPost_ret (v := .int .u64 (behind pc size)) (by simp [results, Tryd.results39, go_sem]) rfl ⟨by rw [(unhide E1).1], by rw [(unhide E1).2]; exact rgn (unhide Hn) hI h2.tail⟩
end
end Go.Proofs.YtblbgalpkodibaaDoor
