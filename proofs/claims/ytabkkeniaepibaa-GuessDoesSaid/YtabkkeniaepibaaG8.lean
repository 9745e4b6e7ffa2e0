/- Layer 18: what was learned at one place is not told of another: the walk. -/
import Derived.Test.YtabkkeniaepibaaG7
import Derived.Test.YtabkkeniaepibaaOpen
namespace Go.Proofs.Ytabkkeniaepibaa
open Go.RowKit

theorem rk_congr {c c' : St} (pc : Int) (h : ∀ i, i < 48 → c' i = c i) : rk c' pc = rk c pc := by
  have := rowN_lt pc
  unfold rk
  rw [h _ (by omega), h _ (by omega)]
theorem push_out {c : St} {v : Int} (hz : 0 ≤ c 116 ∧ c 116 ≤ 4) (i : Nat) (h : i < 112) : pushS c v i = c i := by
  have hss : c 116 = 0 ∨ c 116 = 1 ∨ c 116 = 2 ∨ c 116 = 3 ∨ c 116 = 4 := by omega
  rcases hss with hs | hs | hs | hs | hs <;> simp [pushS, hs, shift, upd] <;> repeat rw [if_neg (by omega)]
theorem pop_out {c : St} (hz : 0 ≤ c 116 ∧ c 116 ≤ 4) (i : Nat) (h : i < 112) : popS c i = c i := by
  have hss : c 116 = 0 ∨ c 116 = 1 ∨ c 116 = 2 ∨ c 116 = 3 ∨ c 116 = 4 := by omega
  rcases hss with hs | hs | hs | hs | hs <;> simp [popS, hs, upd] <;> repeat rw [if_neg (by omega)]
theorem next_out {c : St} (hz : 0 ≤ c 116 ∧ c 116 ≤ 4) (pc size : Int) (i : Nat) (h : i < 112) : nSt c pc size i = c i := by
  unfold nSt
  split
  · exact push_out hz i h
  · split
    · exact pop_out hz i h
    · rfl
theorem lCtr_out (c : St) (k : Nat) (tk : Bool) (i : Nat) (h : i < 48) : lCtr c k tk i = c i := by
  unfold lCtr
  split
  · unfold upd; rw [if_neg (by omega), if_neg (by omega), if_neg (by omega)]
  · split
    · unfold upd; rw [if_neg (by omega), if_neg (by omega)]
    · unfold upd; rw [if_neg (by omega)]
theorem rk_next {c : St} (hI : GI c) (x s pc : Int) : rk (nSt c x s) pc = rk c pc := rk_congr pc fun i h => next_out hI.size x s i (by omega)
theorem rk_setRow {c : St} {x pc t k : Int} (h : x ≠ pc) (h0 : rk c pc = 0) : rk (setRow c (rowN x) x t k) pc = 0 := by
  have h1 := rowN_lt x
  have h2 := rowN_lt pc
  by_cases hn : rowN x = rowN pc
  · unfold rk
    rw [← hn]
    have e : setRow c (rowN x) x t k (rowN x * 3) = x := by
      unfold setRow upd
      rw [if_neg (by omega), if_neg (by omega), if_pos rfl]
    rw [e, if_neg h]
  · have e : ∀ j, j < 3 → setRow c (rowN x) x t k (rowN pc * 3 + j) = c (rowN pc * 3 + j) := fun j hj => by
      unfold setRow upd
      rw [if_neg (by omega), if_neg (by omega), if_neg (by omega)]
    have e0 := e 0 (by omega)
    have e2 := e 2 (by omega)
    unfold rk at h0 ⊢
    simp only [Nat.add_zero] at e0
    rw [e0, e2]
    exact h0
theorem rk_learn {c : St} {x pc : Int} (k : Int) (tk : Bool) (t : Int) (h : x ≠ pc) (h0 : rk c pc = 0) : rk (lSt c x k tk t) pc = 0 := by
  have hR : rk (lRow c x k tk t) pc = 0 := by
    unfold lRow
    split
    · exact rk_setRow h h0
    · exact h0
  unfold lSt
  split
  · exact h0
  · split
    · exact hR
    · rw [rk_congr pc fun i hi => lCtr_out _ _ _ i hi]; exact hR
theorem rk_learn0 {c : St} {pc : Int} (t : Int) (h0 : rk c pc = 0) : rk (lSt c pc 1 false t) pc = 0 := by
  have e : lSt c pc 1 false t = lCtr c (ctrN pc (c 117)) false := by simp [lSt, lRow]
  rw [e, rk_congr pc fun i hi => lCtr_out _ _ _ i hi]; exact h0
theorem rk_c0 (s pc : Int) : rk (c0 s) pc = 0 := by
  have := rowN_lt pc
  unfold rk
  split
  · unfold c0; rw [if_neg (by omega)]
  · rfl
theorem mk_bd {c : St} (hI : GI c) : MkB (c 112) (c 113) (c 114) (c 115) (c 116) (c 117) :=
  ⟨hI.stk 0 (by omega), hI.stk 1 (by omega), hI.stk 2 (by omega), hI.stk 3 (by omega), by have := hI.size; omega, by have := hI.hist; omega⟩
theorem eq22 (x : Int) (w : World) : (binOp .eql 22 (.int .u64 x) (.int .u64 x)).run Try.prog w = .ok (.bool true) w := by
  have h : (binOp .eql 22 (.int .u64 x) (.int .u64 x)).run Try.prog w = .ok (.bool (decide (x = x))) w := by kernel_rfl
  rw [h]; simp
/-- A step that came in, in a later world. -/
theorem step_at {w wr : World} {A : Option Addr} {n k : Nat} (hS : SlArg [some .i64, some .u64, some .u64, some .i64, none] w A n) (hb : Below w.heap.size w wr) (hk : k < n) : ∃ ab ao, A = some ⟨ab, ao, none⟩ ∧ ∃ (kd pc' tgt sz : Int) (tk : Bool),
    (wr.cell? ⟨ab, ao + k * 5, none⟩ = some (.int .i64 kd) ∧ wr.cell? ⟨ab, ao + k * 5 + 1, none⟩ = some (.int .u64 pc') ∧ wr.cell? ⟨ab, ao + k * 5 + 2, none⟩ = some (.int .u64 tgt) ∧ wr.cell? ⟨ab, ao + k * 5 + 3, none⟩ = some (.int .i64 sz) ∧
     wr.cell? ⟨ab, ao + k * 5 + 4, none⟩ = some (.bool tk)) ∧ (0 ≤ pc' ∧ pc' < 18446744073709551616) ∧ (0 ≤ tgt ∧ tgt < 18446744073709551616) ∧ (-9223372036854775808 ≤ sz ∧ sz < 9223372036854775808) ∧ ab < wr.heap.size := by
  obtain ⟨ab, ao, hA, hab, hX⟩ := hS (by omega)
  obtain ⟨cs, hf, hc⟩ := hX k hk
  have c0 := cell_int hf hc (j := 0) rfl
  have c1 := cell_int hf hc (j := 1) rfl
  have c2 := cell_int hf hc (j := 2) rfl
  have c3 := cell_int hf hc (j := 3) rfl
  have c4 := cell_bool hf hc (j := 4) rfl
  simp only [List.length_cons, List.length_nil, Nat.zero_add, Nat.reduceAdd, Nat.add_zero] at c0 c1 c2 c3 c4
  have up : ∀ {o : Nat} {v : Value}, w.cell? ⟨ab, o, none⟩ = some v → wr.cell? ⟨ab, o, none⟩ = some v := fun h => (hb.cell (p := ⟨ab, _, none⟩) hab).trans h
  exact ⟨ab, ao, hA, _, _, _, _, _, ⟨up c0.1, up c1.1, up c2.1, up c3.1, up c4⟩, b64' c1.2, b64' c2.2, i64' c3.2, Nat.lt_of_lt_of_le hab hb.size⟩
theorem cells5 {w : World} {b : Nat} {a0 a1 a2 a3 a4 : Value} {T : TypeId} (h : w.heap[b]? = some (.cells #[a0, a1, a2, a3, a4] T (0, 0))) :
    w.cell? ⟨b, 0, none⟩ = some a0 ∧ w.cell? ⟨b, 1, none⟩ = some a1 ∧ w.cell? ⟨b, 2, none⟩ = some a2 ∧ w.cell? ⟨b, 3, none⟩ = some a3 ∧ w.cell? ⟨b, 4, none⟩ = some a4 := by
  simp [World.cell?, h]

set_option maxRecDepth 100000 in
set_option maxHeartbeats 4000000 in
theorem rows_walk (seed : Int) (s0 : 0 ≤ seed) (s1 : seed < 18446744073709551616) (pc : Int) (p0 : 0 ≤ pc) (p1 : pc < 18446744073709551616) (size : Int) (A : Option Addr) (n cap : Nat) (w : World) (hS : SlArg [some .i64, some .u64, some .u64, some .i64, none] w A n) (hn : n ≤ 4398046511104) :
    Calls Try.prog 6 #[.int .u64 seed, .int .u64 pc, .int .i64 size, .slice A n cap] w fun e w' => e = .returned (.bool true) ∧ Below w.heap.size w w' := by
  have HS := hide hS
  clear hS
  go_enter Try.func6, Try.ntmps6
  go_wp2_with fail
  refine (fixed_h (Heap.nil w)).mono ?_
  rintro r w1 ⟨rfl, h1⟩
  go_wp2_with fail
  refine (new_h h1 seed s0 s1).mono ?_
  rintro r w2 ⟨b, rfl, h2⟩
  clear h1
  go_wp2
  go_loopw [10] (fun i wr => ∃ (k : Nat) (c : St), i = .int .i64 k ∧ k ≤ n ∧ rk c pc = 0 ∧ Heap w wr [HP.gg b c]) (fun i _ => n - (intOf i).toNat)
  case atStart => exact ⟨0, c0 seed, rfl, Nat.zero_le _, rk_c0 _ _, h2⟩
  case round =>
    obtain ⟨k, c, rfl, hk, hrk, hJ⟩ := hrel
    clear h2
    have Hrk := hide hrk
    clear hrk
    by_cases hlt : k < n
    · obtain ⟨ab, ao, rfl, kd, pc', tgt, sz, tk, ⟨x0, x1, x2, x3, x4⟩, ⟨y0, y1⟩, ⟨t0, t1⟩, _, hab⟩ := step_at (unhide HS) hJ.below hlt
      have J1 := (hJ.new #[.int .i64 kd, .int .u64 pc', .int .u64 tgt, .int .i64 sz, .bool tk] 34).f2
      have c5 := cells5 J1.f2.heap
      have hxl := lt_of_heap' J1.f2.heap
      clear hJ
      by_cases hp : pc' = pc
      · subst hp
        have z : (pc' == pc') = true := beq_self_eq_true _
        go_wp2_with fail
        refine (learn_h J1 pc' 1 false tgt p0 p1 t0 t1).mono ?_
        rintro r w5 ⟨rfl, h5⟩
        clear J1 c5
        go_wp2
        exact ⟨⟨k + 1, _, by go_num, by omega, rk_learn0 _ (unhide Hrk), h5.f2.tail⟩, by simp [intOf]; omega⟩
      · have z : (pc' == pc) = false := beq_eq_false_iff_ne.2 hp
        have z' : (pc' != pc) = true := bne_iff_ne.2 hp
        go_wp2_with fail
        refine (learn_h J1 pc' sz tk tgt y0 y1 t0 t1).mono ?_
        rintro r w5 ⟨rfl, h5⟩
        have hI5 := hide h5.ggI
        clear J1 c5
        have c5 := cells5 h5.f2.heap
        have hxl := lt_of_heap' h5.f2.heap
        go_wp2_with fail
        refine (next_h h5 pc' 4 y0 y1).mono ?_
        rintro r w6 ⟨rfl, h6⟩
        clear h5 c5
        go_wp2
        exact ⟨⟨k + 1, _, by go_num, by omega, by rw [rk_next (unhide hI5)]; exact rk_learn _ _ _ hp (unhide Hrk), h6.f2.tail⟩, by simp [intOf]; omega⟩
    · obtain rfl : k = n := by omega
      have hI := hide hJ.ggI
      have HM := hide (mk_bd hJ.ggI)
      have hno : nOut c pc size = behind pc size := by unfold nOut; rw [unhide Hrk]; simp
      have hns : nSt c pc size = c := by unfold nSt; rw [unhide Hrk]; simp
      have HN : Hid (∀ w_ M, Heap w w_ (HP.gg b c :: M) → Calls Try.prog 14 #[.pointer (some ⟨b, 0, none⟩), .int .u64 pc, .int .i64 size] w_ fun r w' => r = .returned (.int .u64 (behind pc size)) ∧ Heap w w' (HP.gg b c :: M)) := hide fun w_ M hh => by
        have := next_h hh pc size p0 p1
        rw [hno, hns] at this
        exact this
      clear hno hns
      go_wp2_with fail
      refine (mark_h hJ).mono ?_
      rintro r w4 ⟨rfl, h4⟩
      have h5 := (h4.new (mkv c) 31).f2
      unfold mkv at h5 ⊢
      obtain ⟨bm, hbm⟩ : ∃ bm, w4.heap.size = bm := ⟨_, rfl⟩
      rw [hbm] at h5
      clear h4 hJ
      go_upto_if 56 with fail
      go_cut [13] (fun s13 wx => s13 = .int .u64 (behind pc size) ∧ Heap w wx [HP.gg b c, HP.blk bm #[.int .u64 (c 112), .int .u64 (c 113), .int .u64 (c 114), .int .u64 (c 115), .int .i64 (c 116), .int .u64 (c 117)] 31])
      case first =>
        by_cases q : size = 2
        · have z : (size == 2) = true := beq_iff_eq.2 q
          go_wp2
          go_meet
          exact ⟨by unfold behind; rw [if_pos q], h5⟩
        · have z : (size == 2) = false := beq_eq_false_iff_ne.2 q
          go_wp2
          go_meet
          exact ⟨by unfold behind; rw [if_neg q], h5⟩
      case rest =>
        obtain ⟨rfl, h5⟩ := hcut
        go_wp2_with fail
        refine wp_region_F (fun w_ => Heap w w_ [HP.gg b c, HP.blk bm #[.int .u64 (c 112), .int .u64 (c 113), .int .u64 (c 114), .int .u64 (c 115), .int .i64 (c 116), .int .u64 (c 117)] 31]) (fun _ _ => True) (fun k_ v_ w_ => match k_ with
            | 0 => v_ = .pointer (some ⟨b, 0, none⟩)
            | 1 => v_ = .int .u64 pc
            | 2 => v_ = .int .i64 size
            | 3 => v_ = .int .u64 (behind pc size)
            | 4 => v_ = .int .u64 (behind pc size)
            | 5 => v_ = .bool true
            | 6 => v_ = .bool true
            | 7 => v_ = .pointer (some ⟨b, 0, none⟩)
            | 8 => v_ = .agg #[.int .u64 (c 112), .int .u64 (c 113), .int .u64 (c 114), .int .u64 (c 115), .int .i64 (c 116), .int .u64 (c 117)]
            | 9 => v_ = .agg #[.int .u64 (c 112), .int .u64 (c 113), .int .u64 (c 114), .int .u64 (c 115), .int .i64 (c 116), .int .u64 (c 117)]
            | 10 => v_ = .bool true
            | 11 => v_ = .bool true
            | _ => v_ = .bool true) fol (by kernel_rfl) ?_ ?_ ?_ ?_
        · exact h5.drew
        · intro k_ v_ w_ w2_ h1 hg
          split at h1 <;> exact h1
        · intro vals
          show wpG _ _ _ _ _ _ 0 (_ :: _) _
          refine wpG_cons (gval (.pointer (some ⟨b, 0, none⟩)) (fun _ => trivial) fun w_ hJ hd => ?_) ?_
          · exact ⟨by kernel_rfl, by kernel_rfl, rfl⟩
          refine wpG_cons (gval (.int .u64 pc) (fun _ => trivial) fun w_ hJ hd => ?_) ?_
          · exact ⟨by kernel_rfl, by kernel_rfl, rfl⟩
          refine wpG_cons (gval (.int .i64 size) (fun _ => trivial) fun w_ hJ hd => ?_) ?_
          · exact ⟨by kernel_rfl, by kernel_rfl, rfl⟩
          refine wpG_cons (gcall 14 #[.pointer (some ⟨b, 0, none⟩), .int .u64 pc, .int .i64 size] fun w_ hJ hd => ?_) ?_
          · have e0 : vals 0 = _ := hd 0 (by decide) (by kernel_rfl)
            have e1 : vals 1 = _ := hd 1 (by decide) (by kernel_rfl)
            have e2 : vals 2 = _ := hd 2 (by decide) (by kernel_rfl)
            rw [e0, e1, e2]
            exact ⟨by kernel_rfl, by kernel_rfl, (unhide HN w_ _ hJ).mono fun e w2 ⟨he, hh⟩ => ⟨_, he, hh, trivial, rfl⟩⟩
          refine wpG_cons (gval (.int .u64 (behind pc size)) (fun _ => trivial) fun w_ hJ hd => ?_) ?_
          · exact ⟨by kernel_rfl, by kernel_rfl, rfl⟩
          refine wpG_cons (gop (binOp .eql 22 (.int .u64 (behind pc size)) (.int .u64 (behind pc size))) (.bool true) (fun _ => trivial) fun w_ hJ hd => ?_) ?_
          · have e3 : vals 3 = _ := hd 3 (by decide) (by kernel_rfl)
            have e4 : vals 4 = _ := hd 4 (by decide) (by kernel_rfl)
            rw [e3, e4]
            exact ⟨by kernel_rfl, by kernel_rfl, eq22 _ w_, rfl⟩
          refine wpG_cons (gval (.bool true) (fun _ => trivial) fun w_ hJ hd => ?_) ?_
          · have e5 : vals 5 = _ := hd 5 (by decide) (by kernel_rfl)
            rw [e5]
            exact ⟨by kernel_rfl, by kernel_rfl, rfl⟩
          refine wpG_cons (gval (.pointer (some ⟨b, 0, none⟩)) (fun _ => trivial) fun w_ hJ hd => ?_) ?_
          · have e6 : vals 6 = _ := hd 6 (by decide) (by kernel_rfl)
            rw [e6]
            exact ⟨by kernel_rfl, by kernel_rfl, rfl⟩
          refine wpG_cons (gcall 11 #[.pointer (some ⟨b, 0, none⟩)] fun w_ hJ hd => ?_) ?_
          · have e7 : vals 7 = _ := hd 7 (by decide) (by kernel_rfl)
            have e6 : vals 6 = _ := hd 6 (by decide) (by kernel_rfl)
            rw [e7, e6]
            exact ⟨by kernel_rfl, by kernel_rfl, (mark_h hJ).mono fun e w2 ⟨he, hh⟩ => ⟨_, he, hh, trivial, rfl⟩⟩
          refine wpG_cons (gop (Instr.loadAt 31 (.pointer (some ⟨bm, 0, none⟩))) (.agg #[.int .u64 (c 112), .int .u64 (c 113), .int .u64 (c 114), .int .u64 (c 115), .int .i64 (c 116), .int .u64 (c 117)]) (fun _ => trivial) fun w_ hJ hd => ?_) ?_
          · have e6 : vals 6 = _ := hd 6 (by decide) (by kernel_rfl)
            rw [e6]
            exact ⟨by kernel_rfl, by kernel_rfl, load_mk hJ.f2.heap, rfl⟩
          refine wpG_cons (gop ((do eqGuard .eql 31 (.tmp 67) (.tmp 68) (.agg #[.int .u64 (c 112), .int .u64 (c 113), .int .u64 (c 114), .int .u64 (c 115), .int .i64 (c 116), .int .u64 (c 117)]) (.agg #[.int .u64 (c 112), .int .u64 (c 113), .int .u64 (c 114), .int .u64 (c 115), .int .i64 (c 116), .int .u64 (c 117)]); binOp .eql 31 (.agg #[.int .u64 (c 112), .int .u64 (c 113), .int .u64 (c 114), .int .u64 (c 115), .int .i64 (c 116), .int .u64 (c 117)]) (.agg #[.int .u64 (c 112), .int .u64 (c 113), .int .u64 (c 114), .int .u64 (c 115), .int .i64 (c 116), .int .u64 (c 117)]))) (.bool true) (fun _ => trivial) fun w_ hJ hd => ?_) ?_
          · have e8 : vals 8 = _ := hd 8 (by decide) (by kernel_rfl)
            have e9 : vals 9 = _ := hd 9 (by decide) (by kernel_rfl)
            have e6 : vals 6 = _ := hd 6 (by decide) (by kernel_rfl)
            rw [e8, e9, e6]
            exact ⟨by kernel_rfl, by kernel_rfl, eqg31 (eql31 _ _ _ _ _ _ (unhide HM) w_), rfl⟩
          refine wpG_cons (gval (.bool true) (fun _ => trivial) fun w_ hJ hd => ?_) ?_
          · have e6 : vals 6 = _ := hd 6 (by decide) (by kernel_rfl)
            have e10 : vals 10 = _ := hd 10 (by decide) (by kernel_rfl)
            rw [e6, e10]
            exact ⟨by kernel_rfl, by kernel_rfl, rfl⟩
          refine wpG_cons (gval (.bool true) (fun _ => trivial) fun w_ hJ hd => ?_) wpG_nil
          · have e11 : vals 11 = _ := hd 11 (by decide) (by kernel_rfl)
            rw [e11]
            exact ⟨by kernel_rfl, by kernel_rfl, rfl⟩
        · intro vals w_ hJ hf
          have e0 : vals 0 = _ := hf 0 (by decide)
          have e1 : vals 1 = _ := hf 1 (by decide)
          have e2 : vals 2 = _ := hf 2 (by decide)
          have e3 : vals 3 = _ := hf 3 (by decide)
          have e4 : vals 4 = _ := hf 4 (by decide)
          have e5 : vals 5 = _ := hf 5 (by decide)
          have e6 : vals 6 = _ := hf 6 (by decide)
          have e7 : vals 7 = _ := hf 7 (by decide)
          have e8 : vals 8 = _ := hf 8 (by decide)
          have e9 : vals 9 = _ := hf 9 (by decide)
          have e10 : vals 10 = _ := hf 10 (by decide)
          have e11 : vals 11 = _ := hf 11 (by decide)
          have e12 : vals 12 = _ := hf 12 (by decide)
          simp only [fillG, Nat.zero_add, Nat.reduceAdd, e0, e1, e2, e3, e4, e5, e6, e7, e8, e9, e10, e11, e12, Act.put, List.setIfInBounds_toArray, List.set_cons_succ, List.set_cons_zero]
          clear e0 e1 e2 e3 e4 e5 e6 e7 e8 e9 e10 e11 e12 hf
          go_wp2
          go_ret
          exact ⟨rfl, hJ.below⟩
end Go.Proofs.Ytabkkeniaepibaa
