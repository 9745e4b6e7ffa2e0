/- Layer 18, the reference: Counters, Stack; sameMark, sameCounters. -/
import Derived.Test.YtblbgalpkodibaaDoorG16
import Derived.Test.YtblbgalpkodibaaDoorRegion
namespace Go.Proofs.YtblbgalpkodibaaDoor
open Go.RowKit

theorem res3o {fn : Func} {p u v : Tmp} {tmps : Array Value} {w : World} {g : Nat} {a d e f : Int} {x y : Value} (h : fn.results = #[.cell p 34, .tmp u, .tmp v]) (hp : tmps.getD p undef = .pointer (some ⟨g, 0, none⟩)) (hu : tmps.getD u undef = x) (hv : tmps.getD v undef = y)
    (hg : w.heap[g]? = some (.cells #[.int .u64 a, .int .u64 d, .int .u64 e, .int .u64 f] 34 (0, 0))) :
    (results fn tmps).run Tryd.prog w = .ok (.tuple #[.agg #[.int .u64 a, .int .u64 d, .int .u64 e, .int .u64 f], x, y]) w := by
  have hl := run_loadVar_row (P := Tryd.prog) w g 34 34 #[.int .u64 a, .int .u64 d, .int .u64 e, .int .u64 f] (0, 0) _ hg Tryd.underlying34 rfl (by kernel_rfl)
  subst hu hv
  have hp' : tmps[p]?.getD undef = .pointer (some ⟨g, 0, none⟩) := by simpa using hp
  simp only [results, h]
  simp [Result.andThen, hp', asAddr, hl]
theorem load_o4 {w : World} {g : Nat} {a d e f : Int} (h : w.heap[g]? = some (.cells #[.int .u64 a, .int .u64 d, .int .u64 e, .int .u64 f] 34 (0, 0))) : (Instr.loadAt 34 (.pointer (some ⟨g, 0, none⟩))).run Tryd.prog w = .ok (.agg #[.int .u64 a, .int .u64 d, .int .u64 e, .int .u64 f]) w :=
  run_loadAt_mid w g 0 34 [.int .u64 a, .int .u64 d, .int .u64 e, .int .u64 f] _ (range_blk (xs := [.int .u64 a, .int .u64 d, .int .u64 e, .int .u64 f]) h 0 4 _ rfl) Tryd.underlying34 rfl (by kernel_rfl)
theorem store_o4 {w : World} {g : Nat} {x0 x1 x2 x3 : Value} (h : w.heap[g]? = some (.cells #[x0, x1, x2, x3] 34 (0, 0))) (a d e f : Int) :
    (Instr.storeAt 34 (.pointer (some ⟨g, 0, none⟩)) (.agg #[.int .u64 a, .int .u64 d, .int .u64 e, .int .u64 f])).run Tryd.prog w = .ok () (w.setCells g 0 [.int .u64 a, .int .u64 d, .int .u64 e, .int .u64 f]) :=
  run_storeAt_mid w g 0 34 #[.int .u64 a, .int .u64 d, .int .u64 e, .int .u64 f] (there_blk (xs := [x0, x1, x2, x3]) h (by simp)) (by kernel_rfl) (by kernel_rfl)
section
variable {w0 w : World} {L : List HP}
theorem store4_h {g : Nat} {x0 x1 x2 x3 : Value} (h : Heap w0 w (HP.blk g #[x0, x1, x2, x3] 34 :: L)) (a d e f : Int) : Heap w0 (w.setCells g 0 [.int .u64 a, .int .u64 d, .int .u64 e, .int .u64 f]) (HP.blk g #[.int .u64 a, .int .u64 d, .int .u64 e, .int .u64 f] 34 :: L) :=
  h.sets (xs := [x0, x1, x2, x3]) [.int .u64 a, .int .u64 d, .int .u64 e, .int .u64 f] 0
end
theorem cts_one (c : St) : ∀ y ∈ cts c, y.oneCell' = true := by
  intro y hy
  simp only [cts, List.mem_map] at hy
  obtain ⟨i, _, rfl⟩ := hy
  rfl
/-- The first k cells of what Stack tells. -/
def og (c : St) (k i : Nat) : Value := .int .u64 (if i < k then c (112 + i) else 0)
def ol (c : St) (k : Nat) : List Value := [og c k 0, og c k 1, og c k 2, og c k 3]
theorem ol_up (c : St) {k : Nat} (hk : k < 4) : (ol c k).set k (.int .u64 (c (112 + k))) = ol c (k + 1) := by
  rcases lt4 hk with rfl | rfl | rfl | rfl <;> simp [ol, og]
theorem ol_end {c : St} (hI : GI c) {n : Nat} (hn : (c 116).toNat = n) : ol c n = [.int .u64 (c 112), .int .u64 (c 113), .int .u64 (c 114), .int .u64 (c 115)] := by
  have hz := hI.size
  have h : ∀ i : Nat, i < 4 → (if i < n then c (112 + i) else 0) = c (112 + i) := fun i hi => by
    by_cases q : i < n
    · rw [if_pos q]
    · rw [if_neg q, hI.zero i hi (by omega)]
  unfold ol og
  rw [h 0 (by omega), h 1 (by omega), h 2 (by omega), h 3 (by omega)]
section
variable {w0 w : World} {L : List HP} {b g1 o1 c1 g2 o2 c2 c3 g4 o4 c4 : Nat} {A3 : Option Addr} {c : St}
set_option maxRecDepth 100000 in
set_option maxHeartbeats 2000000 in
theorem stackR_h (h : Heap w0 w (HP.rg b c :: L)) :
    Calls Tryd.prog 38 #[.pointer (some ⟨b, 0, none⟩)] w fun r w' => r = .returned (.tuple #[.agg #[.int .u64 (c 112), .int .u64 (c 113), .int .u64 (c 114), .int .u64 (c 115)], .int .i64 (c 116), .int .u64 (c 117)]) ∧ Heap w0 w' (HP.rg b c :: L) := by
  obtain ⟨g1, o1, c1, g2, o2, c2, A3, c3, g4, o4, c4, hI, hh⟩ := h.rgo
  have hz6 := hI.size
  have hh6 := hI.hist
  obtain ⟨n, hn⟩ : ∃ n, (c 116).toNat = n := ⟨_, rfl⟩
  obtain ⟨x, hx⟩ : ∃ x : Nat, c 117 = x := ⟨(c 117).toNat, by omega⟩
  have hn4 : n ≤ 4 := by omega
  rw [hn] at hh
  have hend := hide (ol_end hI hn)
  have Hcn := hide (show c 116 = (n : Int) by omega)
  have Hn := hide hn
  have Hx := hide hx
  have HI := hide hI
  have hx64 : x < 64 := by omega
  have h1 := (hh.new #[.int .u64 0, .int .u64 0, .int .u64 0, .int .u64 0] 34).new #[.int .u64 0, .int .u64 0, .int .u64 0, .int .u64 0] 34
  obtain ⟨k5, hk5⟩ : ∃ k5, w.heap.size = k5 := ⟨_, rfl⟩
  have e1 : (w.alloc (.cells #[.int .u64 0, .int .u64 0, .int .u64 0, .int .u64 0] 34)).heap.size = k5 + 1 := by simp [hk5]
  rw [e1, hk5] at h1
  clear hn hx hI h e1
  go_enter Tryd.func38, Tryd.ntmps38
  go_wp2
  go_loopw [6] (fun i wr => ∃ k : Nat, i = .int .i64 k ∧ k ≤ n ∧ Heap w0 wr (HP.blk (k5 + 1) (ol c k).toArray 34 :: HP.blk k5 #[.int .u64 0, .int .u64 0, .int .u64 0, .int .u64 0] 34 :: HP.blk b #[.slice (some ⟨g1, o1, none⟩) 16 c1, .slice (some ⟨g2, o2, none⟩) 64 c2, .slice A3 n c3, .slice (some ⟨g4, o4, none⟩) 6 c4] 87 :: HP.slw (.slice (some ⟨g1, o1, none⟩) 16 c1) 3 16 (rws c) :: HP.slw (.slice (some ⟨g2, o2, none⟩) 64 c2) 1 64 (cts c) :: HP.slw (.slice A3 n c3) 1 n (sks c) :: HP.sl (.slice (some ⟨g4, o4, none⟩) 6 c4) 1 6 (hts c) :: L)) (fun i _ => n - (intOf i).toNat)
  case atStart => exact ⟨0, rfl, Nat.zero_le _, h1⟩
  case round =>
    obtain ⟨k, rfl, hk, hJ⟩ := hrel
    clear h1
    obtain ⟨d0, d1, d2, d3, f0, f1, f2, f3⟩ := cells4f hJ.f3.heap
    have hbl := lt_of_heap' hJ.f3.heap
    have h5l := lt_of_heap' hJ.heap
    by_cases hlt : k < n
    · obtain ⟨g3, o3, cp, hv, hcp⟩ := hJ.f6.slw.addr (by omega)
      injection hv with hv _ hv2
      subst hv hv2
      obtain ⟨t1, t2, _⟩ := hJ.f6.slw.at_ (j := k) (by omega)
      rw [sks_get, unhide Hn, if_pos hlt] at t2
      obtain ⟨q1, q2⟩ := cell_blk hJ.heap k
      have hS := hJ.setl k (.int .u64 (c (112 + k)))
      rw [ol_up c (by omega)] at hS
      have HS := hide hS
      clear hJ hS
      have hk4 : k < 4 := by omega
      rcases lt4 hk4 with rfl | rfl | rfl | rfl
      · have q1 : wr.cell? ⟨k5 + 1, 0, none⟩ = some (og c 0 0) := q1
        try rw [Nat.add_zero] at t2
        go_wp2_with (refine wpList_store_at rfl 22 _ _ rfl (k5 + 1) 0 (.int .u64 (c 112)) rfl rfl rfl rfl (by kernel_rfl) q1 q2 ?_; refine unhide ?_)
        have hS : Heap w0 (wr.setCell ⟨k5 + 1, 0, none⟩ (.int .u64 (c 112))) _ := unhide HS
        generalize wr.setCell ⟨k5 + 1, 0, none⟩ (.int .u64 (c 112)) = w4 at *
        refine hide ?_
        clear HS q1 q2 d0 d1 d2 d3 f0 f1 f2 f3 hbl t1 t2 h5l
        go_wp2
        exact ⟨⟨1, by go_num, by omega, hS⟩, by simp [intOf]; omega⟩
      · have q1 : wr.cell? ⟨k5 + 1, 1, none⟩ = some (og c 1 1) := q1
        try rw [Nat.add_zero] at t2
        go_wp2_with (refine wpList_store_at rfl 22 _ _ rfl (k5 + 1) 1 (.int .u64 (c 113)) rfl rfl rfl rfl (by kernel_rfl) q1 q2 ?_; refine unhide ?_)
        have hS : Heap w0 (wr.setCell ⟨k5 + 1, 1, none⟩ (.int .u64 (c 113))) _ := unhide HS
        generalize wr.setCell ⟨k5 + 1, 1, none⟩ (.int .u64 (c 113)) = w4 at *
        refine hide ?_
        clear HS q1 q2 d0 d1 d2 d3 f0 f1 f2 f3 hbl t1 t2 h5l
        go_wp2
        exact ⟨⟨2, by go_num, by omega, hS⟩, by simp [intOf]; omega⟩
      · have q1 : wr.cell? ⟨k5 + 1, 2, none⟩ = some (og c 2 2) := q1
        try rw [Nat.add_zero] at t2
        go_wp2_with (refine wpList_store_at rfl 22 _ _ rfl (k5 + 1) 2 (.int .u64 (c 114)) rfl rfl rfl rfl (by kernel_rfl) q1 q2 ?_; refine unhide ?_)
        have hS : Heap w0 (wr.setCell ⟨k5 + 1, 2, none⟩ (.int .u64 (c 114))) _ := unhide HS
        generalize wr.setCell ⟨k5 + 1, 2, none⟩ (.int .u64 (c 114)) = w4 at *
        refine hide ?_
        clear HS q1 q2 d0 d1 d2 d3 f0 f1 f2 f3 hbl t1 t2 h5l
        go_wp2
        exact ⟨⟨3, by go_num, by omega, hS⟩, by simp [intOf]; omega⟩
      · have q1 : wr.cell? ⟨k5 + 1, 3, none⟩ = some (og c 3 3) := q1
        try rw [Nat.add_zero] at t2
        go_wp2_with (refine wpList_store_at rfl 22 _ _ rfl (k5 + 1) 3 (.int .u64 (c 115)) rfl rfl rfl rfl (by kernel_rfl) q1 q2 ?_; refine unhide ?_)
        have hS : Heap w0 (wr.setCell ⟨k5 + 1, 3, none⟩ (.int .u64 (c 115))) _ := unhide HS
        generalize wr.setCell ⟨k5 + 1, 3, none⟩ (.int .u64 (c 115)) = w4 at *
        refine hide ?_
        clear HS q1 q2 d0 d1 d2 d3 f0 f1 f2 f3 hbl t1 t2 h5l
        go_wp2
        exact ⟨⟨4, by go_num, by omega, hS⟩, by simp [intOf]; omega⟩
    · obtain rfl : k = n := by omega
      rw [unhide hend] at hJ
      go_wp2
      go_loopw [7, 8] (fun out i wr => ∃ j : Nat, i = .int .i64 ((j : Int) - 1) ∧ j ≤ 6 ∧ out = .int .u64 ((x / 2 ^ j : Nat) : Int) ∧ Heap w0 wr (HP.blk (k5 + 1) #[.int .u64 (c 112), .int .u64 (c 113), .int .u64 (c 114), .int .u64 (c 115)] 34 :: HP.blk k5 #[.int .u64 0, .int .u64 0, .int .u64 0, .int .u64 0] 34 :: HP.blk b #[.slice (some ⟨g1, o1, none⟩) 16 c1, .slice (some ⟨g2, o2, none⟩) 64 c2, .slice A3 k c3, .slice (some ⟨g4, o4, none⟩) 6 c4] 87 :: HP.slw (.slice (some ⟨g1, o1, none⟩) 16 c1) 3 16 (rws c) :: HP.slw (.slice (some ⟨g2, o2, none⟩) 64 c2) 1 64 (cts c) :: HP.slw (.slice A3 k c3) 1 k (sks c) :: HP.sl (.slice (some ⟨g4, o4, none⟩) 6 c4) 1 6 (hts c) :: L)) (fun _ i _ => (intOf i + 1).toNat)
      case atStart => exact ⟨6, rfl, Nat.le_refl _, by rw [Nat.div_eq_of_lt (by simpa using hx64)]; rfl, hJ⟩
      case round =>
        obtain ⟨j, rfl, hj, rfl, hF⟩ := hrel
        clear hJ d0 d1 d2 d3 f0 f1 f2 f3 hbl h5l
        obtain ⟨d0, d1, d2, d3, f0, f1, f2, f3⟩ := cells4f hF.f3.heap
        have hbl := lt_of_heap' hF.f3.heap
        cases j with
        | zero =>
          rw [show x / 2 ^ 0 = x by simp]
          go_wp2
          obtain ⟨vals, e0, e1, e2, e3, e4, e5, e6, e7, e8, e9⟩ : ∃ vals : Nat → Value, vals 0 = .agg #[.int .u64 (c 112), .int .u64 (c 113), .int .u64 (c 114), .int .u64 (c 115)] ∧ vals 1 = .pointer (some ⟨b, 0, none⟩) ∧ vals 2 = .pointer (some ⟨b, 0, none⟩) ∧ vals 3 = .pointer (some ⟨b, 2, none⟩) ∧ vals 4 = .slice A3 k c3 ∧ vals 5 = .int .i64 (k : Nat) ∧ vals 6 = .int .u64 (x : Nat) ∧ vals 7 = undef ∧ vals 8 = .int .i64 (k : Nat) ∧ vals 9 = .int .u64 (x : Nat) :=
            ⟨fun k_ => match k_ with
              | 0 => .agg #[.int .u64 (c 112), .int .u64 (c 113), .int .u64 (c 114), .int .u64 (c 115)]
              | 1 => .pointer (some ⟨b, 0, none⟩)
              | 2 => .pointer (some ⟨b, 0, none⟩)
              | 3 => .pointer (some ⟨b, 2, none⟩)
              | 4 => .slice A3 k c3
              | 5 => .int .i64 (k : Nat)
              | 6 => .int .u64 (x : Nat)
              | 7 => undef
              | 8 => .int .i64 (k : Nat)
              | _ => .int .u64 (x : Nat)
              , rfl, rfl, rfl, rfl, rfl, rfl, rfl, rfl, rfl, rfl⟩
          refine wp_region_V (J1 7 (fun a1 w_ => Heap w0 w_ (HP.blk (k5 + 1) #[.int .u64 (c 112), .int .u64 (c 113), .int .u64 (c 114), .int .u64 (c 115)] 34 :: HP.blk k5 (bif a1 then #[.int .u64 (c 112), .int .u64 (c 113), .int .u64 (c 114), .int .u64 (c 115)] else #[.int .u64 0, .int .u64 0, .int .u64 0, .int .u64 0]) 34 :: HP.blk b #[.slice (some ⟨g1, o1, none⟩) 16 c1, .slice (some ⟨g2, o2, none⟩) 64 c2, .slice A3 k c3, .slice (some ⟨g4, o4, none⟩) 6 c4] 87 :: HP.slw (.slice (some ⟨g1, o1, none⟩) 16 c1) 3 16 (rws c) :: HP.slw (.slice (some ⟨g2, o2, none⟩) 64 c2) 1 64 (cts c) :: HP.slw (.slice A3 k c3) 1 k (sks c) :: HP.sl (.slice (some ⟨g4, o4, none⟩) 6 c4) 1 6 (hts c) :: L))) vals fol (by kernel_rfl) (J1.start ?_) ?_ ?_
          · exact hF.drew
          · show wpV _ _ _ _ 0 (_ :: _) _
            refine wpV_cons e0 (j1op (by decide) (Instr.loadAt 34 (.pointer (some ⟨k5 + 1, 0, none⟩))) (.agg #[.int .u64 (c 112), .int .u64 (c 113), .int .u64 (c 114), .int .u64 (c 115)]) fun a1 w_ hK => ?_) ?_
            · exact ⟨by kernel_rfl, by kernel_rfl, load_o4 hK.heap⟩
            refine wpV_cons e1 (j1val (by decide) (.pointer (some ⟨b, 0, none⟩)) fun a1 w_ hK => ?_) ?_
            · exact ⟨by kernel_rfl, by kernel_rfl⟩
            refine wpV_cons e2 (j1val (by decide) (.pointer (some ⟨b, 0, none⟩)) fun a1 w_ hK => ?_) ?_
            · exact ⟨by kernel_rfl, by kernel_rfl⟩
            refine wpV_cons e3 (j1val (by decide) (.pointer (some ⟨b, 2, none⟩)) fun a1 w_ hK => ?_) ?_
            · exact ⟨by kernel_rfl, by kernel_rfl⟩
            refine wpV_cons e4 (j1op (by decide) (Instr.loadAt 85 (.pointer (some ⟨b, 2, none⟩))) (.slice A3 k c3) fun a1 w_ hK => ?_) ?_
            · exact ⟨by kernel_rfl, by kernel_rfl, run_load1 (by kernel_rfl) (cells4f hK.f3.heap).2.2.1⟩
            refine wpV_cons e5 (j1val (by decide) (.int .i64 (k : Nat)) fun a1 w_ hK => ?_) ?_
            · exact ⟨by kernel_rfl, by kernel_rfl⟩
            refine wpV_cons e6 (j1val (by decide) (.int .u64 (x : Nat)) fun a1 w_ hK => ?_) ?_
            · exact ⟨by kernel_rfl, by kernel_rfl⟩
            refine wpV_cons e7 (j1store (Instr.storeAt 34 (.pointer (some ⟨k5, 0, none⟩)) (.agg #[.int .u64 (c 112), .int .u64 (c 113), .int .u64 (c 114), .int .u64 (c 115)])) fun w_ hK => ?_) ?_
            · exact ⟨by kernel_rfl, by kernel_rfl, _, store_o4 hK.f2.heap _ _ _ _, (store4_h hK.f2 _ _ _ _).f2⟩
            refine wpV_cons e8 (j1val (by decide) (.int .i64 (k : Nat)) fun a1 w_ hK => ?_) ?_
            · exact ⟨by kernel_rfl, by kernel_rfl⟩
            refine wpV_cons e9 (j1val (by decide) (.int .u64 (x : Nat)) fun a1 w_ hK => ?_) wpV_nil
            · exact ⟨by kernel_rfl, by kernel_rfl⟩
          · intro w_ hJ2
            have h5 := hJ2.done (by decide)
            simp only [cond_true] at h5
            clear hJ2
            simp only [fillG, Nat.zero_add, Nat.reduceAdd, e0, e1, e2, e3, e4, e5, e6, e8, e9, Act.put, List.setIfInBounds_toArray, List.set_cons_succ, List.set_cons_zero]
            clear e0 e1 e2 e3 e4 e5 e6 e7 e8 e9
            go_wp2
            exact bodyPost_ret (v := .tuple #[.agg #[.int .u64 (c 112), .int .u64 (c 113), .int .u64 (c 114), .int .u64 (c 115)], .int .i64 (k : Nat), .int .u64 (x : Nat)]) (res3o rfl rfl rfl rfl h5.f2.heap) rfl ⟨by rw [unhide Hcn, unhide Hx], rgn (unhide Hn) (unhide HI) h5.tail.tail⟩
        | succ j =>
          have hs1 : ((j + 1 : Nat) : Int) - 1 = (j : Int) := by omega
          rw [hs1]
          obtain ⟨t1, t2, _⟩ := (hF.nth 6 rfl).sl.at_ (j := j) (by omega)
          rw [hts_get c (by omega), unhide Hx] at t2
          obtain ⟨u, hu⟩ : ∃ u, x / 2 ^ (j + 1) = u := ⟨_, rfl⟩
          obtain ⟨v, hv⟩ : ∃ v, x / 2 ^ j = v := ⟨_, rfl⟩
          have huv : v / 2 = u := by rw [← hu, ← hv, Nat.pow_succ, Nat.div_div_eq_div_mul]
          have hv64 : v < 64 := by rw [← hv]; exact Nat.lt_of_le_of_lt (Nat.div_le_self _ _) hx64
          have hb : (x : Int) / 2 ^ j % 2 = ((v % 2 : Nat) : Int) := by rw [← hv]; push_cast; rfl
          rw [hb] at t2
          rw [hu]
          have Hv := hide hv
          clear hb hv hu
          go_wp2
          refine ⟨⟨j, rfl, by omega, by rw [unhide Hv]; congr 1; omega, hF⟩, by simp [intOf]⟩
end
end Go.Proofs.YtblbgalpkodibaaDoor
