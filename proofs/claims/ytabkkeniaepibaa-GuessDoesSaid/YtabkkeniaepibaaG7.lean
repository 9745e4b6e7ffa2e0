/- Layer 18: what is fixed. -/
import Derived.Test.YtabkkeniaepibaaG6
namespace Go.Proofs.Ytabkkeniaepibaa
open Go.RowKit

section
variable {w0 w : World} {L : List HP} {b : Nat} {c : St}
theorem clamp_bd (s : Int) : 0 ≤ clamp s ∧ clamp s ≤ 4 := by unfold clamp; omega
theorem GI.back (hI : GI c) {m : Nat → Int} (hm : ∀ i, i < 4 → 0 ≤ m i ∧ m i < 18446744073709551616) (s h : Int) : GI (backS c m s h) := by
  have hc := clamp_bd s
  refine ⟨fun i h h2 => ?_, fun i h => ?_, fun i h => ?_, fun i h => ?_, ?_, ?_, fun i h => ?_⟩
  · unfold backS; rw [if_neg (by omega), if_neg (by omega), if_neg (by omega)]; exact hI.row i h h2
  · unfold backS; rw [if_neg (by omega), if_neg (by omega), if_neg (by omega)]; exact hI.kind i h
  · unfold backS; rw [if_neg (by omega), if_neg (by omega), if_neg (by omega)]; exact hI.ctr i h
  · unfold backS
    rw [if_neg (by omega), if_neg (by omega), if_pos (by omega)]
    split
    · exact hm _ (by omega)
    · omega
  · unfold backS; rw [if_neg (by omega), if_pos rfl]; exact hc
  · unfold backS; rw [if_pos rfl]; omega
  · unfold backS
    rw [if_neg (by omega), if_pos rfl, if_neg (by omega), if_neg (by omega), if_pos (by omega)]
    intro hl
    rw [if_neg (by rw [show 112 + i - 112 = i by omega]; omega)]
def m4 (m0 m1 m2 m3 : Int) : Nat → Int := fun i => if i = 0 then m0 else if i = 1 then m1 else if i = 2 then m2 else m3
theorem m4_bd {m0 m1 m2 m3 : Int} (h0 : 0 ≤ m0 ∧ m0 < 18446744073709551616) (h1 : 0 ≤ m1 ∧ m1 < 18446744073709551616) (h2 : 0 ≤ m2 ∧ m2 < 18446744073709551616) (h3 : 0 ≤ m3 ∧ m3 < 18446744073709551616) : ∀ i, i < 4 → 0 ≤ m4 m0 m1 m2 m3 i ∧ m4 m0 m1 m2 m3 i < 18446744073709551616 := by
  intro i _
  unfold m4
  repeat' split
  all_goals assumption
theorem back_h (h : Heap w0 w (HP.gg b c :: L)) {m0 m1 m2 m3 sz hs : Int} (b0 : 0 ≤ m0 ∧ m0 < 18446744073709551616) (b1 : 0 ≤ m1 ∧ m1 < 18446744073709551616) (b2 : 0 ≤ m2 ∧ m2 < 18446744073709551616) (b3 : 0 ≤ m3 ∧ m3 < 18446744073709551616) (h0 : 0 ≤ hs) (h1 : hs < 18446744073709551616) :
    Calls Try.prog 17 #[.pointer (some ⟨b, 0, none⟩), .agg #[.int .u64 m0, .int .u64 m1, .int .u64 m2, .int .u64 m3, .int .i64 sz, .int .u64 hs]] w fun r w' => r = .returned (.tuple #[]) ∧ Heap w0 w' (HP.gg b (backS c (m4 m0 m1 m2 m3) sz hs) :: L) := by
  obtain ⟨hI, hh⟩ := Heap.gg.1 h
  exact (back_k hh m0 m1 m2 m3 sz hs h0 h1).mono fun r w' ⟨hr, hg⟩ => ⟨hr, Heap.gg.2 ⟨hI.back (m4_bd b0 b1 b2 b3) _ _, hg⟩⟩
theorem flat31 : flat Try.prog 8 31 = .some [.some .u64, .some .u64, .some .u64, .some .u64, .some .i64, .some .u64] := by kernel_rfl
theorem named31 : named Try.prog 8 31 = true := by kernel_rfl
theorem kt31 : Try.prog.keyTypeAt 8 31 = true := by kernel_rfl
theorem formed31 (a b c d e f : Int) : (Value.agg #[.int .u64 a, .int .u64 b, .int .u64 c, .int .u64 d, .int .i64 e, .int .u64 f]).formed Try.prog 31 = true := by kernel_rfl
structure MkB (a b c d e f : Int) : Prop where
  a : 0 ≤ a ∧ a < 18446744073709551616
  b : 0 ≤ b ∧ b < 18446744073709551616
  c : 0 ≤ c ∧ c < 18446744073709551616
  d : 0 ≤ d ∧ d < 18446744073709551616
  e : -9223372036854775808 ≤ e ∧ e < 9223372036854775808
  f : 0 ≤ f ∧ f < 18446744073709551616
theorem wf_u64 {x : Int} (h : 0 ≤ x ∧ x < 18446744073709551616) : (Lit.int .u64 x).wf = true := by
  simp [Lit.wf, IntKind.min, IntKind.max, IntKind.signed, IntKind.bits]; omega
theorem wf_i64 {x : Int} (h : -9223372036854775808 ≤ x ∧ x < 9223372036854775808) : (Lit.int .i64 x).wf = true := by
  simp [Lit.wf, IntKind.min, IntKind.max, IntKind.signed, IntKind.bits]; omega
theorem fits_mk {a b c d e f : Int} (h : MkB a b c d e f) : Fits [.some .u64, .some .u64, .some .u64, .some .u64, .some .i64, .some .u64] [.int .u64 a, .int .u64 b, .int .u64 c, .int .u64 d, .int .i64 e, .int .u64 f] :=
  ⟨⟨_, rfl, wf_u64 h.a⟩, ⟨_, rfl, wf_u64 h.b⟩, ⟨_, rfl, wf_u64 h.c⟩, ⟨_, rfl, wf_u64 h.d⟩, ⟨_, rfl, wf_i64 h.e⟩, ⟨_, rfl, wf_u64 h.f⟩, trivial⟩
theorem eql31 (a b c d e f : Int) (h : MkB a b c d e f) (w : World) : (binOp .eql 31 (.agg #[.int .u64 a, .int .u64 b, .int .u64 c, .int .u64 d, .int .i64 e, .int .u64 f]) (.agg #[.int .u64 a, .int .u64 b, .int .u64 c, .int .u64 d, .int .i64 e, .int .u64 f])).run Try.prog w = .ok (.bool true) w :=
  run_eql_same flat31 named31 kt31 (formed31 _ _ _ _ _ _) (fits_mk h)
theorem eqg31 {op : BinOp} {x y : Operand} {A B : Array Value} {v : Value} {w : World} (h : (binOp op 31 (.agg A) (.agg B)).run Try.prog w = .ok v w) : (do eqGuard op 31 x y (.agg A) (.agg B); binOp op 31 (.agg A) (.agg B) : Sem Value).run Try.prog w = .ok v w := by
  simp only [Sem.run_bind, run_eqGuard_agg (P := Try.prog) w op 31 x y A B (by kernel_rfl), Result.andThen_ok, h]
theorem load_mk {w : World} {g : Nat} {a b c d e f : Int} (h : w.heap[g]? = some (.cells #[.int .u64 a, .int .u64 b, .int .u64 c, .int .u64 d, .int .i64 e, .int .u64 f] 31 (0, 0))) :
    (Instr.loadAt 31 (.pointer (some ⟨g, 0, none⟩))).run Try.prog w = .ok (.agg #[.int .u64 a, .int .u64 b, .int .u64 c, .int .u64 d, .int .i64 e, .int .u64 f]) w :=
  run_loadAt_mid w g 0 31 [.int .u64 a, .int .u64 b, .int .u64 c, .int .u64 d, .int .i64 e, .int .u64 f] _ (range_blk (xs := [.int .u64 a, .int .u64 b, .int .u64 c, .int .u64 d, .int .i64 e, .int .u64 f]) h 0 6 _ rfl) Try.underlying31 rfl (by kernel_rfl)
end
theorem cells6 {w : World} {b : Nat} {a0 a1 a2 a3 a4 a5 : Value} {T : TypeId} (h : w.heap[b]? = some (.cells #[a0, a1, a2, a3, a4, a5] T (0, 0))) :
    w.cell? ⟨b, 0, none⟩ = some a0 ∧ w.cell? ⟨b, 1, none⟩ = some a1 ∧ w.cell? ⟨b, 2, none⟩ = some a2 ∧ w.cell? ⟨b, 3, none⟩ = some a3 ∧ w.cell? ⟨b, 4, none⟩ = some a4 ∧ w.cell? ⟨b, 5, none⟩ = some a5 := by
  simp [World.cell?, h]
def A1 : St := nSt (c0 0) 2147483648 2
def A2 : St := lSt A1 256 3 true 512
def A3 : St := lSt A2 516 4 true 2457
def A4 : St := nSt A3 256 4
def A5 : St := nSt A4 516 2
def A6 : St := nSt A5 516 2
def A7 : St := backS A6 (m4 260 0 0 0) 1 0
def A8 : St := nSt A7 516 2
theorem o1 : nOut (c0 0) 2147483648 2 = 2147483650 := by kernel_rfl
theorem o2 : nOut A3 256 4 = 512 := by kernel_rfl
theorem o3 : nOut A4 516 2 = 260 := by kernel_rfl
theorem o4 : nOut A5 516 2 = 2457 := by kernel_rfl
theorem o5 : nOut A7 516 2 = 260 := by kernel_rfl
theorem mk4 : mkv A4 = #[.int .u64 260, .int .u64 0, .int .u64 0, .int .u64 0, .int .i64 1, .int .u64 0] := by kernel_rfl
theorem k0 : A8 (48 + 0) = 0 := by kernel_rfl
theorem k1 : A8 (48 + 1) = 0 := by kernel_rfl
theorem k2 : A8 (48 + 2) = 2 := by kernel_rfl
theorem k3 : A8 (48 + 3) = 1 := by kernel_rfl
section
variable {w0 w : World} {L : List HP}
set_option maxRecDepth 100000 in
set_option maxHeartbeats 2000000 in
theorem fixed_h (h : Heap w0 w L) : Calls Try.prog 8 #[] w fun r w' => r = .returned (.bool true) ∧ Heap w0 w' L := by
  go_enter Try.func8, Try.ntmps8
  go_wp2_with fail
  refine (new_h h 0 (by decide) (by decide)).mono ?_
  rintro r w1 ⟨b, rfl, h1⟩
  go_wp2_with fail
  refine (next_h h1 2147483648 2 (by decide) (by decide)).mono ?_
  rintro r w2 ⟨rfl, h2⟩
  rw [o1]
  change Heap w0 w2 (HP.gg b A1 :: L) at h2
  go_wp2_with fail
  refine (learn_h h2 256 3 true 512 (by decide) (by decide) (by decide) (by decide)).mono ?_
  rintro r w3 ⟨rfl, h3⟩
  change Heap w0 w3 (HP.gg b A2 :: L) at h3
  go_wp2_with fail
  refine (learn_h h3 516 4 true 2457 (by decide) (by decide) (by decide) (by decide)).mono ?_
  rintro r w4 ⟨rfl, h4⟩
  change Heap w0 w4 (HP.gg b A3 :: L) at h4
  go_wp2_with fail
  refine (next_h h4 256 4 (by decide) (by decide)).mono ?_
  rintro r w5 ⟨rfl, h5⟩
  rw [o2]
  change Heap w0 w5 (HP.gg b A4 :: L) at h5
  clear h1 h2 h3 h4
  go_wp2_with fail
  refine (mark_h h5).mono ?_
  rintro r w6 ⟨rfl, h6⟩
  rw [mk4]
  have h6 := (h6.new #[.int .u64 260, .int .u64 0, .int .u64 0, .int .u64 0, .int .i64 1, .int .u64 0] 31).f2
  obtain ⟨bm, hbm⟩ : ∃ bm, w6.heap.size = bm := ⟨_, rfl⟩
  rw [hbm] at h6
  go_wp2_with fail
  refine (copy_h h6).mono ?_
  rintro r w7 ⟨bo, rfl, h7⟩
  clear h5 h6
  go_wp2_with fail
  refine (next_h h7.f2 516 2 (by decide) (by decide)).mono ?_
  rintro r w8 ⟨rfl, h8⟩
  rw [o3]
  change Heap w0 w8 (HP.gg b A5 :: _) at h8
  go_wp2_with fail
  refine (next_h h8 516 2 (by decide) (by decide)).mono ?_
  rintro r w9 ⟨rfl, h9⟩
  rw [o4]
  change Heap w0 w9 (HP.gg b A6 :: _) at h9
  clear h7 h8
  have hm := cells6 h9.f3.heap
  have hml := lt_of_heap' h9.f3.heap
  go_wp2_with fail
  refine (back_h (m0 := 260) (m1 := 0) (m2 := 0) (m3 := 0) (sz := 1) (hs := 0) h9 (by decide) (by decide) (by decide) (by decide) (by decide) (by decide)).mono ?_
  rintro r w10 ⟨rfl, h10⟩
  change Heap w0 w10 (HP.gg b A7 :: _) at h10
  go_wp2_with fail
  refine (next_h h10 516 2 (by decide) (by decide)).mono ?_
  rintro r w11 ⟨rfl, h11⟩
  rw [o5]
  change Heap w0 w11 (HP.gg b A8 :: _) at h11
  clear h9 h10 hm
  go_wp2_with fail
  refine (counters_h h11).mono ?_
  rintro r w12 ⟨rfl, h12⟩
  go_wp2_with (refine wpList_store_mid rfl 43 (.tmp 9) (.tmp 35) rfl w12.heap.size 0 (ctl A8).toArray rfl rfl ?_ (by rw [List.size_toArray, ctl_len]; exact isz43) (ctl_one _) ?_
               rotate_left
               refine unhide ?_)
  rotate_left
  · exact there_new _ _ _ (Eq.trans (rfl : _ = 64) (by rw [List.size_toArray, ctl_len]))
  generalize hw1 : World.setCells _ w12.heap.size 0 (ctl A8).toArray.toList = w13
  have h13 : Heap w0 w13 (HP.blk w12.heap.size (ctl A8).toArray 43 :: HP.gg b A8 :: HP.gg bo A4 :: HP.blk bm #[.int .u64 260, .int .u64 0, .int .u64 0, .int .u64 0, .int .i64 1, .int .u64 0] 31 :: L) := by
    rw [← hw1]
    exact h12.clone _ _ _ (Eq.trans (rfl : _ = 64) (by rw [ctl_len]))
  clear hw1 h12
  generalize w12.heap.size = bc at *
  refine hide ?_
  go_wp2_with fail
  have h15 := (h13.f3).f2
  refine wp_region_F (fun w_ => Heap w0 w_ (HP.blk bc (ctl A8).toArray 43 :: HP.gg bo A4 :: HP.gg b A8 :: HP.blk bm #[.int .u64 260, .int .u64 0, .int .u64 0, .int .u64 0, .int .i64 1, .int .u64 0] 31 :: L)) (fun _ _ => True) (fun k_ v_ w_ => match k_ with
      | 0 => v_ = .int .u64 2147483650
      | 1 => v_ = .bool true
      | 2 => v_ = .bool true
      | 3 => v_ = .int .u64 512
      | 4 => v_ = .bool true
      | 5 => v_ = .bool true
      | 6 => v_ = .bool true
      | 7 => v_ = .pointer (some ⟨bm, 4, none⟩)
      | 8 => v_ = .int .i64 1
      | 9 => v_ = .bool true
      | 10 => v_ = .bool true
      | 11 => v_ = .bool true
      | 12 => v_ = .pointer (some ⟨bm, 0, none⟩)
      | 13 => v_ = .pointer (some ⟨bm, 0, none⟩)
      | 14 => v_ = .int .u64 260
      | 15 => v_ = .bool true
      | 16 => v_ = .bool true
      | 17 => v_ = .bool true
      | 18 => v_ = .int .u64 260
      | 19 => v_ = .bool true
      | 20 => v_ = .bool true
      | 21 => v_ = .bool true
      | 22 => v_ = .int .u64 2457
      | 23 => v_ = .bool true
      | 24 => v_ = .bool true
      | 25 => v_ = .bool true
      | 26 => v_ = .int .u64 260
      | 27 => v_ = .bool true
      | 28 => v_ = .bool true
      | 29 => v_ = .bool true
      | 30 => v_ = .pointer (some ⟨bc, 0, none⟩)
      | 31 => v_ = .int .u8 0
      | 32 => v_ = .bool true
      | 33 => v_ = .bool true
      | 34 => v_ = .bool true
      | 35 => v_ = .pointer (some ⟨bc, 1, none⟩)
      | 36 => v_ = .int .u8 0
      | 37 => v_ = .bool true
      | 38 => v_ = .bool true
      | 39 => v_ = .bool true
      | 40 => v_ = .pointer (some ⟨bc, 2, none⟩)
      | 41 => v_ = .int .u8 2
      | 42 => v_ = .bool true
      | 43 => v_ = .bool true
      | 44 => v_ = .bool true
      | 45 => v_ = .pointer (some ⟨bc, 3, none⟩)
      | 46 => v_ = .int .u8 1
      | 47 => v_ = .bool true
      | 48 => v_ = .bool true
      | 49 => v_ = .bool true
      | 50 => v_ = .pointer (some ⟨bo, 0, none⟩)
      | 51 => v_ = .bool true
      | 52 => v_ = .bool true
      | 53 => v_ = .bool true
      | 54 => v_ = .pointer (some ⟨bo, 0, none⟩)
      | 55 => v_ = .agg #[.int .u64 260, .int .u64 0, .int .u64 0, .int .u64 0, .int .i64 1, .int .u64 0]
      | 56 => v_ = .agg #[.int .u64 260, .int .u64 0, .int .u64 0, .int .u64 0, .int .i64 1, .int .u64 0]
      | 57 => v_ = .bool true
      | 58 => v_ = .bool true
      | _ => v_ = .bool true) fol (by kernel_rfl) ?_ ?_ ?_ ?_
  · exact h15.drew
  · intro k_ v_ w_ w2_ h1 hg
    split at h1 <;> exact h1
  · intro vals
    show wpG _ _ _ _ _ _ 0 (_ :: _) _
    refine wpG_cons (gval (.int .u64 2147483650) (fun _ => trivial) fun w_ hJ hd => ?_) ?_
    · exact ⟨by kernel_rfl, by kernel_rfl, rfl⟩
    refine wpG_cons (gval (.bool true) (fun _ => trivial) fun w_ hJ hd => ?_) ?_
    · have e0 : vals 0 = _ := hd 0 (by decide) (by kernel_rfl)
      rw [e0]
      exact ⟨by kernel_rfl, by kernel_rfl, rfl⟩
    refine wpG_cons (gval (.bool true) (fun _ => trivial) fun w_ hJ hd => ?_) ?_
    · have e1 : vals 1 = _ := hd 1 (by decide) (by kernel_rfl)
      rw [e1]
      exact ⟨by kernel_rfl, by kernel_rfl, rfl⟩
    refine wpG_cons (gval (.int .u64 512) (fun _ => trivial) fun w_ hJ hd => ?_) ?_
    · have e2 : vals 2 = _ := hd 2 (by decide) (by kernel_rfl)
      rw [e2]
      exact ⟨by kernel_rfl, by kernel_rfl, rfl⟩
    refine wpG_cons (gval (.bool true) (fun _ => trivial) fun w_ hJ hd => ?_) ?_
    · have e3 : vals 3 = _ := hd 3 (by decide) (by kernel_rfl)
      have e2 : vals 2 = _ := hd 2 (by decide) (by kernel_rfl)
      rw [e3, e2]
      exact ⟨by kernel_rfl, by kernel_rfl, rfl⟩
    refine wpG_cons (gval (.bool true) (fun _ => trivial) fun w_ hJ hd => ?_) ?_
    · have e2 : vals 2 = _ := hd 2 (by decide) (by kernel_rfl)
      have e4 : vals 4 = _ := hd 4 (by decide) (by kernel_rfl)
      rw [e2, e4]
      exact ⟨by kernel_rfl, by kernel_rfl, rfl⟩
    refine wpG_cons (gval (.bool true) (fun _ => trivial) fun w_ hJ hd => ?_) ?_
    · have e5 : vals 5 = _ := hd 5 (by decide) (by kernel_rfl)
      rw [e5]
      exact ⟨by kernel_rfl, by kernel_rfl, rfl⟩
    refine wpG_cons (gval (.pointer (some ⟨bm, 4, none⟩)) (fun _ => trivial) fun w_ hJ hd => ?_) ?_
    · have e6 : vals 6 = _ := hd 6 (by decide) (by kernel_rfl)
      rw [e6]
      exact ⟨by kernel_rfl, by kernel_rfl, rfl⟩
    refine wpG_cons (gop (Instr.loadAt 3 (.pointer (some ⟨bm, 4, none⟩))) (.int .i64 1) (fun _ => trivial) fun w_ hJ hd => ?_) ?_
    · have e7 : vals 7 = _ := hd 7 (by decide) (by kernel_rfl)
      have e6 : vals 6 = _ := hd 6 (by decide) (by kernel_rfl)
      rw [e7, e6]
      exact ⟨by kernel_rfl, by kernel_rfl, run_load1 (by kernel_rfl) (cell_blk (xs := [.int .u64 260, .int .u64 0, .int .u64 0, .int .u64 0, .int .i64 1, .int .u64 0]) hJ.f4.heap 4).1, rfl⟩
    refine wpG_cons (gval (.bool true) (fun _ => trivial) fun w_ hJ hd => ?_) ?_
    · have e8 : vals 8 = _ := hd 8 (by decide) (by kernel_rfl)
      have e6 : vals 6 = _ := hd 6 (by decide) (by kernel_rfl)
      rw [e8, e6]
      exact ⟨by kernel_rfl, by kernel_rfl, rfl⟩
    refine wpG_cons (gval (.bool true) (fun _ => trivial) fun w_ hJ hd => ?_) ?_
    · have e6 : vals 6 = _ := hd 6 (by decide) (by kernel_rfl)
      have e9 : vals 9 = _ := hd 9 (by decide) (by kernel_rfl)
      rw [e6, e9]
      exact ⟨by kernel_rfl, by kernel_rfl, rfl⟩
    refine wpG_cons (gval (.bool true) (fun _ => trivial) fun w_ hJ hd => ?_) ?_
    · have e10 : vals 10 = _ := hd 10 (by decide) (by kernel_rfl)
      rw [e10]
      exact ⟨by kernel_rfl, by kernel_rfl, rfl⟩
    refine wpG_cons (gval (.pointer (some ⟨bm, 0, none⟩)) (fun _ => trivial) fun w_ hJ hd => ?_) ?_
    · have e11 : vals 11 = _ := hd 11 (by decide) (by kernel_rfl)
      rw [e11]
      exact ⟨by kernel_rfl, by kernel_rfl, rfl⟩
    refine wpG_cons (gval (.pointer (some ⟨bm, 0, none⟩)) (fun _ => trivial) fun w_ hJ hd => ?_) ?_
    · have e12 : vals 12 = _ := hd 12 (by decide) (by kernel_rfl)
      have e11 : vals 11 = _ := hd 11 (by decide) (by kernel_rfl)
      rw [e12, e11]
      exact ⟨by kernel_rfl, by kernel_rfl, rfl⟩
    refine wpG_cons (gop (Instr.loadAt 22 (.pointer (some ⟨bm, 0, none⟩))) (.int .u64 260) (fun _ => trivial) fun w_ hJ hd => ?_) ?_
    · have e13 : vals 13 = _ := hd 13 (by decide) (by kernel_rfl)
      have e11 : vals 11 = _ := hd 11 (by decide) (by kernel_rfl)
      rw [e13, e11]
      exact ⟨by kernel_rfl, by kernel_rfl, run_load1 (by kernel_rfl) (cell_blk (xs := [.int .u64 260, .int .u64 0, .int .u64 0, .int .u64 0, .int .i64 1, .int .u64 0]) hJ.f4.heap 0).1, rfl⟩
    refine wpG_cons (gval (.bool true) (fun _ => trivial) fun w_ hJ hd => ?_) ?_
    · have e14 : vals 14 = _ := hd 14 (by decide) (by kernel_rfl)
      have e11 : vals 11 = _ := hd 11 (by decide) (by kernel_rfl)
      rw [e14, e11]
      exact ⟨by kernel_rfl, by kernel_rfl, rfl⟩
    refine wpG_cons (gval (.bool true) (fun _ => trivial) fun w_ hJ hd => ?_) ?_
    · have e11 : vals 11 = _ := hd 11 (by decide) (by kernel_rfl)
      have e15 : vals 15 = _ := hd 15 (by decide) (by kernel_rfl)
      rw [e11, e15]
      exact ⟨by kernel_rfl, by kernel_rfl, rfl⟩
    refine wpG_cons (gval (.bool true) (fun _ => trivial) fun w_ hJ hd => ?_) ?_
    · have e16 : vals 16 = _ := hd 16 (by decide) (by kernel_rfl)
      rw [e16]
      exact ⟨by kernel_rfl, by kernel_rfl, rfl⟩
    refine wpG_cons (gval (.int .u64 260) (fun _ => trivial) fun w_ hJ hd => ?_) ?_
    · have e17 : vals 17 = _ := hd 17 (by decide) (by kernel_rfl)
      rw [e17]
      exact ⟨by kernel_rfl, by kernel_rfl, rfl⟩
    refine wpG_cons (gval (.bool true) (fun _ => trivial) fun w_ hJ hd => ?_) ?_
    · have e18 : vals 18 = _ := hd 18 (by decide) (by kernel_rfl)
      have e17 : vals 17 = _ := hd 17 (by decide) (by kernel_rfl)
      rw [e18, e17]
      exact ⟨by kernel_rfl, by kernel_rfl, rfl⟩
    refine wpG_cons (gval (.bool true) (fun _ => trivial) fun w_ hJ hd => ?_) ?_
    · have e17 : vals 17 = _ := hd 17 (by decide) (by kernel_rfl)
      have e19 : vals 19 = _ := hd 19 (by decide) (by kernel_rfl)
      rw [e17, e19]
      exact ⟨by kernel_rfl, by kernel_rfl, rfl⟩
    refine wpG_cons (gval (.bool true) (fun _ => trivial) fun w_ hJ hd => ?_) ?_
    · have e20 : vals 20 = _ := hd 20 (by decide) (by kernel_rfl)
      rw [e20]
      exact ⟨by kernel_rfl, by kernel_rfl, rfl⟩
    refine wpG_cons (gval (.int .u64 2457) (fun _ => trivial) fun w_ hJ hd => ?_) ?_
    · have e21 : vals 21 = _ := hd 21 (by decide) (by kernel_rfl)
      rw [e21]
      exact ⟨by kernel_rfl, by kernel_rfl, rfl⟩
    refine wpG_cons (gval (.bool true) (fun _ => trivial) fun w_ hJ hd => ?_) ?_
    · have e22 : vals 22 = _ := hd 22 (by decide) (by kernel_rfl)
      have e21 : vals 21 = _ := hd 21 (by decide) (by kernel_rfl)
      rw [e22, e21]
      exact ⟨by kernel_rfl, by kernel_rfl, rfl⟩
    refine wpG_cons (gval (.bool true) (fun _ => trivial) fun w_ hJ hd => ?_) ?_
    · have e21 : vals 21 = _ := hd 21 (by decide) (by kernel_rfl)
      have e23 : vals 23 = _ := hd 23 (by decide) (by kernel_rfl)
      rw [e21, e23]
      exact ⟨by kernel_rfl, by kernel_rfl, rfl⟩
    refine wpG_cons (gval (.bool true) (fun _ => trivial) fun w_ hJ hd => ?_) ?_
    · have e24 : vals 24 = _ := hd 24 (by decide) (by kernel_rfl)
      rw [e24]
      exact ⟨by kernel_rfl, by kernel_rfl, rfl⟩
    refine wpG_cons (gval (.int .u64 260) (fun _ => trivial) fun w_ hJ hd => ?_) ?_
    · have e25 : vals 25 = _ := hd 25 (by decide) (by kernel_rfl)
      rw [e25]
      exact ⟨by kernel_rfl, by kernel_rfl, rfl⟩
    refine wpG_cons (gval (.bool true) (fun _ => trivial) fun w_ hJ hd => ?_) ?_
    · have e26 : vals 26 = _ := hd 26 (by decide) (by kernel_rfl)
      have e25 : vals 25 = _ := hd 25 (by decide) (by kernel_rfl)
      rw [e26, e25]
      exact ⟨by kernel_rfl, by kernel_rfl, rfl⟩
    refine wpG_cons (gval (.bool true) (fun _ => trivial) fun w_ hJ hd => ?_) ?_
    · have e25 : vals 25 = _ := hd 25 (by decide) (by kernel_rfl)
      have e27 : vals 27 = _ := hd 27 (by decide) (by kernel_rfl)
      rw [e25, e27]
      exact ⟨by kernel_rfl, by kernel_rfl, rfl⟩
    refine wpG_cons (gval (.bool true) (fun _ => trivial) fun w_ hJ hd => ?_) ?_
    · have e28 : vals 28 = _ := hd 28 (by decide) (by kernel_rfl)
      rw [e28]
      exact ⟨by kernel_rfl, by kernel_rfl, rfl⟩
    refine wpG_cons (gval (.pointer (some ⟨bc, 0, none⟩)) (fun _ => trivial) fun w_ hJ hd => ?_) ?_
    · have e29 : vals 29 = _ := hd 29 (by decide) (by kernel_rfl)
      rw [e29]
      exact ⟨by kernel_rfl, by kernel_rfl, rfl⟩
    refine wpG_cons (gop (Instr.loadAt 5 (.pointer (some ⟨bc, 0, none⟩))) (.int .u8 0) (fun _ => trivial) fun w_ hJ hd => ?_) ?_
    · have e30 : vals 30 = _ := hd 30 (by decide) (by kernel_rfl)
      have e29 : vals 29 = _ := hd 29 (by decide) (by kernel_rfl)
      rw [e30, e29]
      exact ⟨by kernel_rfl, by kernel_rfl, run_load1 (by kernel_rfl) (by rw [(cell_blk hJ.heap 0).1, ctl_get, if_pos (by omega), k0]), rfl⟩
    refine wpG_cons (gval (.bool true) (fun _ => trivial) fun w_ hJ hd => ?_) ?_
    · have e31 : vals 31 = _ := hd 31 (by decide) (by kernel_rfl)
      have e29 : vals 29 = _ := hd 29 (by decide) (by kernel_rfl)
      rw [e31, e29]
      exact ⟨by kernel_rfl, by kernel_rfl, rfl⟩
    refine wpG_cons (gval (.bool true) (fun _ => trivial) fun w_ hJ hd => ?_) ?_
    · have e29 : vals 29 = _ := hd 29 (by decide) (by kernel_rfl)
      have e32 : vals 32 = _ := hd 32 (by decide) (by kernel_rfl)
      rw [e29, e32]
      exact ⟨by kernel_rfl, by kernel_rfl, rfl⟩
    refine wpG_cons (gval (.bool true) (fun _ => trivial) fun w_ hJ hd => ?_) ?_
    · have e33 : vals 33 = _ := hd 33 (by decide) (by kernel_rfl)
      rw [e33]
      exact ⟨by kernel_rfl, by kernel_rfl, rfl⟩
    refine wpG_cons (gval (.pointer (some ⟨bc, 1, none⟩)) (fun _ => trivial) fun w_ hJ hd => ?_) ?_
    · have e34 : vals 34 = _ := hd 34 (by decide) (by kernel_rfl)
      rw [e34]
      exact ⟨by kernel_rfl, by kernel_rfl, rfl⟩
    refine wpG_cons (gop (Instr.loadAt 5 (.pointer (some ⟨bc, 1, none⟩))) (.int .u8 0) (fun _ => trivial) fun w_ hJ hd => ?_) ?_
    · have e35 : vals 35 = _ := hd 35 (by decide) (by kernel_rfl)
      have e34 : vals 34 = _ := hd 34 (by decide) (by kernel_rfl)
      rw [e35, e34]
      exact ⟨by kernel_rfl, by kernel_rfl, run_load1 (by kernel_rfl) (by rw [(cell_blk hJ.heap 1).1, ctl_get, if_pos (by omega), k1]), rfl⟩
    refine wpG_cons (gval (.bool true) (fun _ => trivial) fun w_ hJ hd => ?_) ?_
    · have e36 : vals 36 = _ := hd 36 (by decide) (by kernel_rfl)
      have e34 : vals 34 = _ := hd 34 (by decide) (by kernel_rfl)
      rw [e36, e34]
      exact ⟨by kernel_rfl, by kernel_rfl, rfl⟩
    refine wpG_cons (gval (.bool true) (fun _ => trivial) fun w_ hJ hd => ?_) ?_
    · have e34 : vals 34 = _ := hd 34 (by decide) (by kernel_rfl)
      have e37 : vals 37 = _ := hd 37 (by decide) (by kernel_rfl)
      rw [e34, e37]
      exact ⟨by kernel_rfl, by kernel_rfl, rfl⟩
    refine wpG_cons (gval (.bool true) (fun _ => trivial) fun w_ hJ hd => ?_) ?_
    · have e38 : vals 38 = _ := hd 38 (by decide) (by kernel_rfl)
      rw [e38]
      exact ⟨by kernel_rfl, by kernel_rfl, rfl⟩
    refine wpG_cons (gval (.pointer (some ⟨bc, 2, none⟩)) (fun _ => trivial) fun w_ hJ hd => ?_) ?_
    · have e39 : vals 39 = _ := hd 39 (by decide) (by kernel_rfl)
      rw [e39]
      exact ⟨by kernel_rfl, by kernel_rfl, rfl⟩
    refine wpG_cons (gop (Instr.loadAt 5 (.pointer (some ⟨bc, 2, none⟩))) (.int .u8 2) (fun _ => trivial) fun w_ hJ hd => ?_) ?_
    · have e40 : vals 40 = _ := hd 40 (by decide) (by kernel_rfl)
      have e39 : vals 39 = _ := hd 39 (by decide) (by kernel_rfl)
      rw [e40, e39]
      exact ⟨by kernel_rfl, by kernel_rfl, run_load1 (by kernel_rfl) (by rw [(cell_blk hJ.heap 2).1, ctl_get, if_pos (by omega), k2]), rfl⟩
    refine wpG_cons (gval (.bool true) (fun _ => trivial) fun w_ hJ hd => ?_) ?_
    · have e41 : vals 41 = _ := hd 41 (by decide) (by kernel_rfl)
      have e39 : vals 39 = _ := hd 39 (by decide) (by kernel_rfl)
      rw [e41, e39]
      exact ⟨by kernel_rfl, by kernel_rfl, rfl⟩
    refine wpG_cons (gval (.bool true) (fun _ => trivial) fun w_ hJ hd => ?_) ?_
    · have e39 : vals 39 = _ := hd 39 (by decide) (by kernel_rfl)
      have e42 : vals 42 = _ := hd 42 (by decide) (by kernel_rfl)
      rw [e39, e42]
      exact ⟨by kernel_rfl, by kernel_rfl, rfl⟩
    refine wpG_cons (gval (.bool true) (fun _ => trivial) fun w_ hJ hd => ?_) ?_
    · have e43 : vals 43 = _ := hd 43 (by decide) (by kernel_rfl)
      rw [e43]
      exact ⟨by kernel_rfl, by kernel_rfl, rfl⟩
    refine wpG_cons (gval (.pointer (some ⟨bc, 3, none⟩)) (fun _ => trivial) fun w_ hJ hd => ?_) ?_
    · have e44 : vals 44 = _ := hd 44 (by decide) (by kernel_rfl)
      rw [e44]
      exact ⟨by kernel_rfl, by kernel_rfl, rfl⟩
    refine wpG_cons (gop (Instr.loadAt 5 (.pointer (some ⟨bc, 3, none⟩))) (.int .u8 1) (fun _ => trivial) fun w_ hJ hd => ?_) ?_
    · have e45 : vals 45 = _ := hd 45 (by decide) (by kernel_rfl)
      have e44 : vals 44 = _ := hd 44 (by decide) (by kernel_rfl)
      rw [e45, e44]
      exact ⟨by kernel_rfl, by kernel_rfl, run_load1 (by kernel_rfl) (by rw [(cell_blk hJ.heap 3).1, ctl_get, if_pos (by omega), k3]), rfl⟩
    refine wpG_cons (gval (.bool true) (fun _ => trivial) fun w_ hJ hd => ?_) ?_
    · have e46 : vals 46 = _ := hd 46 (by decide) (by kernel_rfl)
      have e44 : vals 44 = _ := hd 44 (by decide) (by kernel_rfl)
      rw [e46, e44]
      exact ⟨by kernel_rfl, by kernel_rfl, rfl⟩
    refine wpG_cons (gval (.bool true) (fun _ => trivial) fun w_ hJ hd => ?_) ?_
    · have e44 : vals 44 = _ := hd 44 (by decide) (by kernel_rfl)
      have e47 : vals 47 = _ := hd 47 (by decide) (by kernel_rfl)
      rw [e44, e47]
      exact ⟨by kernel_rfl, by kernel_rfl, rfl⟩
    refine wpG_cons (gval (.bool true) (fun _ => trivial) fun w_ hJ hd => ?_) ?_
    · have e48 : vals 48 = _ := hd 48 (by decide) (by kernel_rfl)
      rw [e48]
      exact ⟨by kernel_rfl, by kernel_rfl, rfl⟩
    refine wpG_cons (gval (.pointer (some ⟨bo, 0, none⟩)) (fun _ => trivial) fun w_ hJ hd => ?_) ?_
    · have e49 : vals 49 = _ := hd 49 (by decide) (by kernel_rfl)
      rw [e49]
      exact ⟨by kernel_rfl, by kernel_rfl, rfl⟩
    refine wpG_cons (gval (.bool true) (fun _ => trivial) fun w_ hJ hd => ?_) ?_
    · have e50 : vals 50 = _ := hd 50 (by decide) (by kernel_rfl)
      have e49 : vals 49 = _ := hd 49 (by decide) (by kernel_rfl)
      rw [e50, e49]
      exact ⟨by kernel_rfl, by kernel_rfl, rfl⟩
    refine wpG_cons (gval (.bool true) (fun _ => trivial) fun w_ hJ hd => ?_) ?_
    · have e49 : vals 49 = _ := hd 49 (by decide) (by kernel_rfl)
      have e51 : vals 51 = _ := hd 51 (by decide) (by kernel_rfl)
      rw [e49, e51]
      exact ⟨by kernel_rfl, by kernel_rfl, rfl⟩
    refine wpG_cons (gval (.bool true) (fun _ => trivial) fun w_ hJ hd => ?_) ?_
    · have e52 : vals 52 = _ := hd 52 (by decide) (by kernel_rfl)
      rw [e52]
      exact ⟨by kernel_rfl, by kernel_rfl, rfl⟩
    refine wpG_cons (gval (.pointer (some ⟨bo, 0, none⟩)) (fun _ => trivial) fun w_ hJ hd => ?_) ?_
    · have e53 : vals 53 = _ := hd 53 (by decide) (by kernel_rfl)
      rw [e53]
      exact ⟨by kernel_rfl, by kernel_rfl, rfl⟩
    refine wpG_cons (gcall 11 #[.pointer (some ⟨bo, 0, none⟩)] fun w_ hJ hd => ?_) ?_
    · have e54 : vals 54 = _ := hd 54 (by decide) (by kernel_rfl)
      have e53 : vals 53 = _ := hd 53 (by decide) (by kernel_rfl)
      rw [e54, e53]
      exact ⟨by kernel_rfl, by kernel_rfl, (mark_h hJ.f2).mono fun e w2 ⟨he, hh⟩ => ⟨_, he, hh.f2, trivial, congrArg Value.agg mk4⟩⟩
    refine wpG_cons (gop (Instr.loadAt 31 (.pointer (some ⟨bm, 0, none⟩))) (.agg #[.int .u64 260, .int .u64 0, .int .u64 0, .int .u64 0, .int .i64 1, .int .u64 0]) (fun _ => trivial) fun w_ hJ hd => ?_) ?_
    · have e53 : vals 53 = _ := hd 53 (by decide) (by kernel_rfl)
      rw [e53]
      exact ⟨by kernel_rfl, by kernel_rfl, load_mk hJ.f4.heap, rfl⟩
    refine wpG_cons (gop ((do eqGuard .eql 31 (.tmp 91) (.tmp 92) (.agg #[.int .u64 260, .int .u64 0, .int .u64 0, .int .u64 0, .int .i64 1, .int .u64 0]) (.agg #[.int .u64 260, .int .u64 0, .int .u64 0, .int .u64 0, .int .i64 1, .int .u64 0]); binOp .eql 31 (.agg #[.int .u64 260, .int .u64 0, .int .u64 0, .int .u64 0, .int .i64 1, .int .u64 0]) (.agg #[.int .u64 260, .int .u64 0, .int .u64 0, .int .u64 0, .int .i64 1, .int .u64 0]))) (.bool true) (fun _ => trivial) fun w_ hJ hd => ?_) ?_
    · have e55 : vals 55 = _ := hd 55 (by decide) (by kernel_rfl)
      have e56 : vals 56 = _ := hd 56 (by decide) (by kernel_rfl)
      have e53 : vals 53 = _ := hd 53 (by decide) (by kernel_rfl)
      rw [e55, e56, e53]
      exact ⟨by kernel_rfl, by kernel_rfl, eqg31 (eql31 _ _ _ _ _ _ ⟨by decide, by decide, by decide, by decide, by decide, by decide⟩ w_), rfl⟩
    refine wpG_cons (gval (.bool true) (fun _ => trivial) fun w_ hJ hd => ?_) ?_
    · have e53 : vals 53 = _ := hd 53 (by decide) (by kernel_rfl)
      have e57 : vals 57 = _ := hd 57 (by decide) (by kernel_rfl)
      rw [e53, e57]
      exact ⟨by kernel_rfl, by kernel_rfl, rfl⟩
    refine wpG_cons (gval (.bool true) (fun _ => trivial) fun w_ hJ hd => ?_) wpG_nil
    · have e58 : vals 58 = _ := hd 58 (by decide) (by kernel_rfl)
      rw [e58]
      exact ⟨by kernel_rfl, by kernel_rfl, rfl⟩
  · intro vals w_ hJ hf
    have e0 : vals 0 = _ := hf 0 (by decide)
    have e1 : vals 1 = _ := hf 1 (by decide)
    have e2 : vals 2 = _ := hf 2 (by decide)
    have e3 : vals 3 = _ := hf 3 (by decide)
    have e4 : vals 4 = _ := hf 4 (by decide)
    have e5 : vals 5 = _ := hf 5 (by decide)
    have e6 : vals 6 = _ := hf 6 (by decide)
    have e7 : vals 7 = _ := hf 7 (by decide)
    have e8 : vals 8 = _ := hf 8 (by decide)
    have e9 : vals 9 = _ := hf 9 (by decide)
    have e10 : vals 10 = _ := hf 10 (by decide)
    have e11 : vals 11 = _ := hf 11 (by decide)
    have e12 : vals 12 = _ := hf 12 (by decide)
    have e13 : vals 13 = _ := hf 13 (by decide)
    have e14 : vals 14 = _ := hf 14 (by decide)
    have e15 : vals 15 = _ := hf 15 (by decide)
    have e16 : vals 16 = _ := hf 16 (by decide)
    have e17 : vals 17 = _ := hf 17 (by decide)
    have e18 : vals 18 = _ := hf 18 (by decide)
    have e19 : vals 19 = _ := hf 19 (by decide)
    have e20 : vals 20 = _ := hf 20 (by decide)
    have e21 : vals 21 = _ := hf 21 (by decide)
    have e22 : vals 22 = _ := hf 22 (by decide)
    have e23 : vals 23 = _ := hf 23 (by decide)
    have e24 : vals 24 = _ := hf 24 (by decide)
    have e25 : vals 25 = _ := hf 25 (by decide)
    have e26 : vals 26 = _ := hf 26 (by decide)
    have e27 : vals 27 = _ := hf 27 (by decide)
    have e28 : vals 28 = _ := hf 28 (by decide)
    have e29 : vals 29 = _ := hf 29 (by decide)
    have e30 : vals 30 = _ := hf 30 (by decide)
    have e31 : vals 31 = _ := hf 31 (by decide)
    have e32 : vals 32 = _ := hf 32 (by decide)
    have e33 : vals 33 = _ := hf 33 (by decide)
    have e34 : vals 34 = _ := hf 34 (by decide)
    have e35 : vals 35 = _ := hf 35 (by decide)
    have e36 : vals 36 = _ := hf 36 (by decide)
    have e37 : vals 37 = _ := hf 37 (by decide)
    have e38 : vals 38 = _ := hf 38 (by decide)
    have e39 : vals 39 = _ := hf 39 (by decide)
    have e40 : vals 40 = _ := hf 40 (by decide)
    have e41 : vals 41 = _ := hf 41 (by decide)
    have e42 : vals 42 = _ := hf 42 (by decide)
    have e43 : vals 43 = _ := hf 43 (by decide)
    have e44 : vals 44 = _ := hf 44 (by decide)
    have e45 : vals 45 = _ := hf 45 (by decide)
    have e46 : vals 46 = _ := hf 46 (by decide)
    have e47 : vals 47 = _ := hf 47 (by decide)
    have e48 : vals 48 = _ := hf 48 (by decide)
    have e49 : vals 49 = _ := hf 49 (by decide)
    have e50 : vals 50 = _ := hf 50 (by decide)
    have e51 : vals 51 = _ := hf 51 (by decide)
    have e52 : vals 52 = _ := hf 52 (by decide)
    have e53 : vals 53 = _ := hf 53 (by decide)
    have e54 : vals 54 = _ := hf 54 (by decide)
    have e55 : vals 55 = _ := hf 55 (by decide)
    have e56 : vals 56 = _ := hf 56 (by decide)
    have e57 : vals 57 = _ := hf 57 (by decide)
    have e58 : vals 58 = _ := hf 58 (by decide)
    have e59 : vals 59 = _ := hf 59 (by decide)
    simp only [fillG, Nat.zero_add, Nat.reduceAdd, e0, e1, e2, e3, e4, e5, e6, e7, e8, e9, e10, e11, e12, e13, e14, e15, e16, e17, e18, e19, e20, e21, e22, e23, e24, e25, e26, e27, e28, e29, e30, e31, e32, e33, e34, e35, e36, e37, e38, e39, e40, e41, e42, e43, e44, e45, e46, e47, e48, e49, e50, e51, e52, e53, e54, e55, e56, e57, e58, e59, Act.put, List.setIfInBounds_toArray, List.set_cons_succ, List.set_cons_zero]
    clear e0 e1 e2 e3 e4 e5 e6 e7 e8 e9 e10 e11 e12 e13 e14 e15 e16 e17 e18 e19 e20 e21 e22 e23 e24 e25 e26 e27 e28 e29 e30 e31 e32 e33 e34 e35 e36 e37 e38 e39 e40 e41 e42 e43 e44 e45 e46 e47 e48 e49 e50 e51 e52 e53 e54 e55 e56 e57 e58 e59 hf
    clear h13 h15
    go_wp2
    go_ret
    exact ⟨rfl, hJ.tail.tail.tail.tail⟩
end
end Go.Proofs.Ytabkkeniaepibaa
