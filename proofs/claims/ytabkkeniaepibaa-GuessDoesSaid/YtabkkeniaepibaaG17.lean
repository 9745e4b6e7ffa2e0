/- Layer 18, the reference: Back. -/
import Derived.Test.YtabkkeniaepibaaG16
import Derived.Test.YtabkkeniaepibaaRegionX
namespace Go.Proofs.Ytabkkeniaepibaa
open Go.RowKit

def mks (m : Nat → Int) (k : Nat) : List Value := (List.range k).map fun i => .int .u64 (m i)
theorem mks_up (m : Nat → Int) (k : Nat) : mks m (k + 1) = mks m k ++ [.int .u64 (m k)] := by unfold mks; rw [List.range_succ, List.map_append]; rfl
def bts (h : Int) (k : Nat) : List Value := (List.range k).map fun i => .int .i64 (h / 2 ^ i % 2)
theorem bts_up (h : Int) (k : Nat) : bts h (k + 1) = bts h k ++ [.int .i64 (h / 2 ^ k % 2)] := by unfold bts; rw [List.range_succ, List.map_append]; rfl
theorem run_ix29 (kb k : Nat) (h : k < 4) (w : World) : (Instr.indexAt 29 (.pointer (some ⟨kb, 0, none⟩)) (.int .i64 (k : Nat))).run Try.prog w = .ok (.pointer (some ⟨kb, k, none⟩)) w := by
  rcases lt4 h with rfl | rfl | rfl | rfl <;> (show _ = _; kernel_rfl)
theorem cell_m4 {w : World} {kb k : Nat} {m0 m1 m2 m3 : Int} (h : w.heap[kb]? = some (.cells #[.int .u64 m0, .int .u64 m1, .int .u64 m2, .int .u64 m3] 29 (0, 0))) (hk : k < 4) : w.cell? ⟨kb, k, none⟩ = some (.int .u64 (m4 m0 m1 m2 m3 k)) := by
  rcases lt4 hk with rfl | rfl | rfl | rfl <;> simp [World.cell?, h, m4]
theorem run_shr64 (x : Int) (k : Nat) (hk : k ≤ 64) (w : World) : (binOp .shr 22 (.int .u64 x) (.int .i64 (k : Int))).run Try.prog w = .ok (.int .u64 (x / 2 ^ k)) w := by
  have h := shift_shr .u64 .i64 x (k : Int) (by omega) (by show (k : Int) ≤ 64; omega)
  rw [binOp_shr, h]
  rfl
theorem run_and1 (x : Int) (h0 : 0 ≤ x) (h1 : x < 18446744073709551616) (w : World) : (binOp .and 22 (.int .u64 x) (.int .u64 1)).run Try.prog w = .ok (.int .u64 (x % 2)) w := by
  have h : (binOp .and 22 (.int .u64 x) (.int .u64 1)).run Try.prog w = .ok (.int .u64 (bits .and .u64 x 1)) w := by kernel_rfl
  rw [h, u64_mask1 x h0 h1]
theorem run_cv (x : Int) (h0 : 0 ≤ x) (h1 : x < 9223372036854775808) (w : World) : (convert 22 3 (.int .u64 x)).run Try.prog w = .ok (.int .i64 x) w := by
  have h : (convert 22 3 (.int .u64 x)).run Try.prog w = .ok (.int .i64 (IntKind.i64.wrap x)) w := by kernel_rfl
  rw [h, wrap_i64, if_neg (by omega)]
  congr 2
  omega
section
variable {w0 w : World} {L : List HP} {b g1 o1 c1 g2 o2 c2 c3 g4 o4 c4 : Nat} {A3 : Option Addr} {c : St}
set_option maxRecDepth 100000 in
set_option maxHeartbeats 2000000 in
theorem backR_k (h : Heap w0 w (HP.blk b #[.slice (some ⟨g1, o1, none⟩) 16 c1, .slice (some ⟨g2, o2, none⟩) 64 c2, .slice A3 (c 116).toNat c3, .slice (some ⟨g4, o4, none⟩) 6 c4] 61 :: HP.slw (.slice (some ⟨g1, o1, none⟩) 16 c1) 3 16 (rws c) :: HP.slw (.slice (some ⟨g2, o2, none⟩) 64 c2) 1 64 (cts c) :: HP.slw (.slice A3 (c 116).toNat c3) 1 (c 116).toNat (sks c) :: HP.sl (.slice (some ⟨g4, o4, none⟩) 6 c4) 1 6 (hts c) :: L)) (hI : GI c) (m0 m1 m2 m3 sz hs : Int) (h0 : 0 ≤ hs) (h1 : hs < 18446744073709551616) (hm : ∀ i, i < 4 → 0 ≤ m4 m0 m1 m2 m3 i ∧ m4 m0 m1 m2 m3 i < 18446744073709551616) :
    Calls Try.prog 18 #[.pointer (some ⟨b, 0, none⟩), .agg #[.int .u64 m0, .int .u64 m1, .int .u64 m2, .int .u64 m3], .int .i64 sz, .int .u64 hs] w fun r w' => r = .returned (.tuple #[]) ∧ Heap w0 w' (HP.rg b (backS c (m4 m0 m1 m2 m3) sz hs) :: L) := by
  have hfin := hI.back hm sz hs
  have Hfin := hide hfin
  clear hfin
  have hz := clamp_bd sz
  obtain ⟨mm, hmm⟩ : ∃ mm, m4 m0 m1 m2 m3 = mm := ⟨_, rfl⟩
  obtain ⟨n3, hn3⟩ : ∃ n3, (clamp sz).toNat = n3 := ⟨_, rfl⟩
  have hn4 : n3 ≤ 4 := by omega
  obtain ⟨i0, hi, hz0, hz1, hz2⟩ := info_parts info22
  obtain ⟨j0, hj, hy0, hy1, hy2⟩ := info_parts info3
  have hJ0 := h.f4.tail
  clear h
  have hJ1 := (hJ0.new #[.int .u64 m0, .int .u64 m1, .int .u64 m2, .int .u64 m3] 29)
  obtain ⟨kb, hkb⟩ : ∃ kb, w.heap.size = kb := ⟨_, rfl⟩
  rw [hkb] at hJ1
  have hJ2 := (hJ1.emptyW (sz := 1) 22)
  obtain ⟨d0, d1, d2, d3, f0, f1, f2, f3⟩ := cells4f hJ2.f3.heap
  have hbl := lt_of_heap' hJ2.f3.heap
  clear hJ0 hJ1
  go_enter Try.func18, Try.ntmps18
  go_wp2
  have e1 : (w.alloc (.cells #[.int .u64 m0, .int .u64 m1, .int .u64 m2, .int .u64 m3] 29)).heap.size = kb + 1 := by simp [hkb]
  rw [e1] at hJ2
  have hJ3 := (hJ2.f3.set 2 (.slice (some ⟨kb + 1, 0, none⟩) 0 0)).f3.f3
  clear hJ2 e1 hkb d0 d1 d2 d3 f0 f1 f2 f3 hbl

  go_loopw [8] (fun i wr => ∃ (k : Nat) (A : Option Addr) (cap : Nat), i = .int .i64 k ∧ k ≤ n3 ∧ Heap w0 wr (HP.slw (.slice A k cap) 1 k (mks mm k) :: HP.blk kb #[.int .u64 m0, .int .u64 m1, .int .u64 m2, .int .u64 m3] 29 :: HP.blk b #[.slice (some ⟨g1, o1, none⟩) 16 c1, .slice (some ⟨g2, o2, none⟩) 64 c2, .slice A k cap, .slice (some ⟨g4, o4, none⟩) 6 c4] 61 :: HP.slw (.slice (some ⟨g1, o1, none⟩) 16 c1) 3 16 (rws c) :: HP.slw (.slice (some ⟨g2, o2, none⟩) 64 c2) 1 64 (cts c) :: HP.sl (.slice (some ⟨g4, o4, none⟩) 6 c4) 1 6 (hts c) :: L)) (fun i _ => n3 - (intOf i).toNat)
  case atStart => exact ⟨0, some ⟨kb + 1, 0, none⟩, 0, rfl, Nat.zero_le _, hJ3⟩
  case round =>
    obtain ⟨k, A, cap, rfl, hk, hJ⟩ := hrel
    clear hJ3
    obtain ⟨d0, d1, d2, d3, f0, f1, f2, f3⟩ := cells4f hJ.f3.heap
    have hbl := lt_of_heap' hJ.f3.heap
    by_cases hlt : k < n3
    · have hk4 : k < 4 := by omega
      have z1 : decide ((k : Int) < sz) = true := decide_eq_true (by unfold clamp at hn3; omega)
      have z2 : decide ((k : Int) < 4) = true := decide_eq_true (by omega)
      have Hsp_ : Hid (∀ g, spare (.slice A k cap) = some g → g < wr.heap.size) := hide fun g hg => hJ.slw.blk_lt (spare_blk hg)
      have Hmm := hide hmm
      clear hmm d0 d1 d2 d3 f0 f1 f2 f3
      go_wp2
      refine wp_region_XE 9 (fun fl_ w_ => (w_.heap[b]? = some (.cells #[.slice (some ⟨g1, o1, none⟩) 16 c1, .slice (some ⟨g2, o2, none⟩) 64 c2, .slice A k cap, .slice (some ⟨g4, o4, none⟩) 6 c4] 61 (0, 0)) ∧ w_.heap[kb]? = some (.cells #[.int .u64 m0, .int .u64 m1, .int .u64 m2, .int .u64 m3] 29 (0, 0))) ∧ wr.heap.size ≤ w_.heap.size ∧ (fl_ = false → Heap w0 w_ (HP.slw (.slice A k cap) 1 k (mks mm k) :: HP.blk kb #[.int .u64 m0, .int .u64 m1, .int .u64 m2, .int .u64 m3] 29 :: HP.blk b #[.slice (some ⟨g1, o1, none⟩) 16 c1, .slice (some ⟨g2, o2, none⟩) 64 c2, .slice A k cap, .slice (some ⟨g4, o4, none⟩) 6 c4] 61 :: HP.slw (.slice (some ⟨g1, o1, none⟩) 16 c1) 3 16 (rws c) :: HP.slw (.slice (some ⟨g2, o2, none⟩) 64 c2) 1 64 (cts c) :: HP.sl (.slice (some ⟨g4, o4, none⟩) 6 c4) 1 6 (hts c) :: L))) (fun i_ x_ y_ => match i_ with | 9 => x_.grownBy y_ (spare (.slice A k cap)) | _ => (∀ L_, Heap w0 x_ L_ → Heap w0 y_ L_) ∧ GN x_ y_) (fun k_ v_ w_ => match k_ with
          | 0 => v_ = .pointer (some ⟨b, 0, none⟩)
          | 1 => v_ = .pointer (some ⟨b, 0, none⟩)
          | 2 => v_ = .pointer (some ⟨b, 0, none⟩)
          | 3 => v_ = .pointer (some ⟨b, 2, none⟩)
          | 4 => v_ = .slice A k cap
          | 5 => v_ = .int .i64 (k : Nat)
          | 6 => v_ = .pointer (some ⟨kb, k, none⟩)
          | 7 => v_ = .int .u64 (mm k)
          | 8 => ∃ kk : Nat, v_ = .slice (some ⟨kk, 0, none⟩) 1 1 ∧ wr.heap.size ≤ kk ∧ w_.heap[kk]? = some (.cells #[.int .u64 (mm k)] 22 (0, 0))
          | 9 => Heap w0 w_ (HP.slw v_ 1 (k + 1) (mks mm k ++ [.int .u64 (mm k)]) :: HP.blk kb #[.int .u64 m0, .int .u64 m1, .int .u64 m2, .int .u64 m3] 29 :: HP.blk b #[.slice (some ⟨g1, o1, none⟩) 16 c1, .slice (some ⟨g2, o2, none⟩) 64 c2, .slice A k cap, .slice (some ⟨g4, o4, none⟩) 6 c4] 61 :: HP.slw (.slice (some ⟨g1, o1, none⟩) 16 c1) 3 16 (rws c) :: HP.slw (.slice (some ⟨g2, o2, none⟩) 64 c2) 1 64 (cts c) :: HP.sl (.slice (some ⟨g4, o4, none⟩) 6 c4) 1 6 (hts c) :: L)
          | 10 => v_ = .pointer (some ⟨b, 0, none⟩)
          | _ => v_ = .pointer (some ⟨b, 2, none⟩)) fol (by kernel_rfl) ?_ ?_ (by decide) (n := 12) rfl rfl rfl (by kernel_rfl) ?_ ?_
      · exact ⟨⟨hJ.f3.heap, hJ.f2.heap⟩, Nat.le_refl _, fun _ => hJ.drew⟩
      · intro i_ k_ v_ w_ w2_ hne h1 hg
        split at h1
        all_goals first
          | exact h1
          | (obtain ⟨kk, e_, q_, r_⟩ := h1; split at hg; exact ⟨kk, e_, q_, (World.grownBy.block hg kk (lt_of_heap' r_) (fun c_ => by have := unhide Hsp_ _ c_.symm; omega)).trans r_⟩; exact ⟨kk, e_, q_, hg.2.heap r_⟩)
          | (split at hg; exact absurd rfl hne; exact hg.1 _ h1)
      · intro vals
        show wpX _ _ _ _ _ _ _ 0 (_ :: _) _
        refine wpX_cons (xval (.pointer (some ⟨b, 0, none⟩)) (fun _ => ⟨fun _ h_ => h_, GN.refl _⟩) (by decide) fun fl_ w_ hJ hd => ?_) ?_
        · exact ⟨by kernel_rfl, by kernel_rfl, rfl⟩
        refine wpX_cons (xval (.pointer (some ⟨b, 0, none⟩)) (fun _ => ⟨fun _ h_ => h_, GN.refl _⟩) (by decide) fun fl_ w_ hJ hd => ?_) ?_
        · exact ⟨by kernel_rfl, by kernel_rfl, rfl⟩
        refine wpX_cons (xval (.pointer (some ⟨b, 0, none⟩)) (fun _ => ⟨fun _ h_ => h_, GN.refl _⟩) (by decide) fun fl_ w_ hJ hd => ?_) ?_
        · have e1 : vals 1 = _ := hd 1 (by decide) (by kernel_rfl)
          rw [e1]
          exact ⟨by kernel_rfl, by kernel_rfl, rfl⟩
        refine wpX_cons (xval (.pointer (some ⟨b, 2, none⟩)) (fun _ => ⟨fun _ h_ => h_, GN.refl _⟩) (by decide) fun fl_ w_ hJ hd => ?_) ?_
        · have e2 : vals 2 = _ := hd 2 (by decide) (by kernel_rfl)
          rw [e2]
          exact ⟨by kernel_rfl, by kernel_rfl, rfl⟩
        refine wpX_cons (xop (Instr.loadAt 59 (.pointer (some ⟨b, 2, none⟩))) (.slice A k cap) (fun _ => ⟨fun _ h_ => h_, GN.refl _⟩) (by decide) fun fl_ w_ hJ hd => ?_) ?_
        · have e3 : vals 3 = _ := hd 3 (by decide) (by kernel_rfl)
          rw [e3]
          exact ⟨by kernel_rfl, by kernel_rfl, run_load1 (by kernel_rfl) (cells4f hJ.1.1).2.2.1, rfl⟩
        refine wpX_cons (xval (.int .i64 (k : Nat)) (fun _ => ⟨fun _ h_ => h_, GN.refl _⟩) (by decide) fun fl_ w_ hJ hd => ?_) ?_
        · exact ⟨by kernel_rfl, by kernel_rfl, rfl⟩
        refine wpX_cons (xop (Instr.indexAt 29 (.pointer (some ⟨kb, 0, none⟩)) (.int .i64 (k : Nat))) (.pointer (some ⟨kb, k, none⟩)) (fun _ => ⟨fun _ h_ => h_, GN.refl _⟩) (by decide) fun fl_ w_ hJ hd => ?_) ?_
        · have e5 : vals 5 = _ := hd 5 (by decide) (by kernel_rfl)
          rw [e5]
          exact ⟨by kernel_rfl, by kernel_rfl, run_ix29 kb k hk4 w_, rfl⟩
        refine wpX_cons (xop (Instr.loadAt 22 (.pointer (some ⟨kb, k, none⟩))) (.int .u64 (mm k)) (fun _ => ⟨fun _ h_ => h_, GN.refl _⟩) (by decide) fun fl_ w_ hJ hd => ?_) ?_
        · have e6 : vals 6 = _ := hd 6 (by decide) (by kernel_rfl)
          rw [e6]
          exact ⟨by kernel_rfl, by kernel_rfl, run_load1 (by kernel_rfl) ((cell_m4 hJ.1.2 hk4).trans (by rw [unhide Hmm])), rfl⟩
        refine wpX_cons (xmake (by decide) fun fl_ w_ hJ hd => ?_) ?_
        · have e7 : vals 7 = _ := hd 7 (by decide) (by kernel_rfl)
          rw [e7]
          exact ⟨by kernel_rfl, _, w_.alloc (.cells #[.int .u64 (mm k)] 22), (by kernel_rfl : _ = Result.ok (Next.value (.slice (some ⟨w_.heap.size, 0, none⟩) 1 1)) _), ⟨⟨(grown_b1 _ _).heap hJ.1.1, (grown_b1 _ _).heap hJ.1.2⟩, Nat.le_trans hJ.2.1 (by simp), fun h_ => (hJ.2.2 h_).alloc _⟩, ⟨fun _ h_ => h_.alloc _, grown_b1 _ _⟩, w_.heap.size, rfl, hJ.2.1, heap_new' _ _⟩
        refine wpX_cons (xevent rfl fun w_ hJ hd => ?_) ?_
        · have e4 : vals 4 = _ := hd 4 (by decide) (by kernel_rfl)
          have e8 : ∃ kk : Nat, (vals 8) = .slice (some ⟨kk, 0, none⟩) 1 1 ∧ wr.heap.size ≤ kk ∧ w_.heap[kk]? = some (.cells #[.int .u64 (mm k)] 22 (0, 0)) := hd 8 (by decide) (by kernel_rfl)
          rw [e4]
          obtain ⟨kk, e_, q_, r_⟩ := e8
          rw [e_]
          have hB_ := hJ.2.2 rfl
          obtain ⟨v', w', hr_, hsl_, hgr_, hblk_, _⟩ := run_append_sl (P := Try.prog) w_ 59 59 22 i0 _ 1 8 Try.underlying59 hi hz0 hz1 hz2 rfl hB_.slw (sl_blk (n := 1) (sz := 1) (xs := [.int .u64 (mm k)]) r_ rfl) (by simp; rfl) (by omega) (by omega)
          have hA_ := hB_.appendw hsl_ hgr_ hblk_
          exact ⟨by kernel_rfl, v', w', Eq.trans (b := Sem.run Try.prog (do let r ← Builtin.append_ #[59, 59] 59 #[.slice A k cap, .slice (some ⟨kk, 0, none⟩) 1 1]; pure (Next.value r)) w_) (by kernel_rfl) (run_val hr_), ⟨⟨hA_.f3.heap, hA_.f2.heap⟩, Nat.le_trans hJ.2.1 hgr_.size, fun h_ => by cases h_⟩, hgr_, hA_⟩
        refine wpX_cons (xval (.pointer (some ⟨b, 0, none⟩)) (fun _ => ⟨fun _ h_ => h_, GN.refl _⟩) (by decide) fun fl_ w_ hJ hd => ?_) ?_
        · have e0 : vals 0 = _ := hd 0 (by decide) (by kernel_rfl)
          rw [e0]
          exact ⟨by kernel_rfl, by kernel_rfl, rfl⟩
        refine wpX_cons (xval (.pointer (some ⟨b, 2, none⟩)) (fun _ => ⟨fun _ h_ => h_, GN.refl _⟩) (by decide) fun fl_ w_ hJ hd => ?_) wpX_nil
        · have e10 : vals 10 = _ := hd 10 (by decide) (by kernel_rfl)
          rw [e10]
          exact ⟨by kernel_rfl, by kernel_rfl, rfl⟩
      · intro vals w_ hJ hf
        have e0 : vals 0 = _ := hf 0 (by decide)
        have e1 : vals 1 = _ := hf 1 (by decide)
        have e2 : vals 2 = _ := hf 2 (by decide)
        have e3 : vals 3 = _ := hf 3 (by decide)
        have e4 : vals 4 = _ := hf 4 (by decide)
        have e5 : vals 5 = _ := hf 5 (by decide)
        have e6 : vals 6 = _ := hf 6 (by decide)
        have e7 : vals 7 = _ := hf 7 (by decide)
        have e10 : vals 10 = _ := hf 10 (by decide)
        have e11 : vals 11 = _ := hf 11 (by decide)
        have e9 : Heap w0 w_ (HP.slw (vals 9) 1 (k + 1) (mks mm k ++ [.int .u64 (mm k)]) :: HP.blk kb #[.int .u64 m0, .int .u64 m1, .int .u64 m2, .int .u64 m3] 29 :: HP.blk b #[.slice (some ⟨g1, o1, none⟩) 16 c1, .slice (some ⟨g2, o2, none⟩) 64 c2, .slice A k cap, .slice (some ⟨g4, o4, none⟩) 6 c4] 61 :: HP.slw (.slice (some ⟨g1, o1, none⟩) 16 c1) 3 16 (rws c) :: HP.slw (.slice (some ⟨g2, o2, none⟩) 64 c2) 1 64 (cts c) :: HP.sl (.slice (some ⟨g4, o4, none⟩) 6 c4) 1 6 (hts c) :: L) := hf 9 (by decide)
        show Oper.wp _ _ (fillG vals 0 (_ :: _ :: _ :: _ :: _ :: _ :: _ :: _ :: _ :: _ :: _ :: _ :: []) _) _ _ _
        simp only [fillG, Nat.zero_add, Nat.reduceAdd, e0, e1, e2, e3, e4, e5, e6, e7, e10, e11, Act.put, List.setIfInBounds_toArray, List.set_cons_succ, List.set_cons_zero]
        clear e0 e1 e2 e3 e4 e5 e6 e7 e10 e11 hf
        generalize vals 8 = v8 at *
        generalize vals 9 = v9 at *
        obtain ⟨A', cap', rfl, _⟩ := e9.slw.parts
        obtain ⟨d0, d1, d2, d3, f0, f1, f2, f3⟩ := cells4f e9.f3.heap
        refine wp_last_skip (w' := w_.setCell ⟨b, 2, none⟩ (.slice A' (k + 1) cap')) (m := Instr.storeAt 59 (.pointer (some ⟨b, 2, none⟩)) (.slice A' (k + 1) cap')) (by kernel_rfl) (run_store1 (by kernel_rfl) rfl rfl d2 f2) ?_
        first | show Exit.then _ _ Exit.normal (Act.put ⟨_, _⟩ none _) _ | show Exit.inBlock _ _ Exit.normal (Act.put ⟨_, _⟩ none _) _
        simp only [Act.put]
        have hJ4 := (e9.f3.set 2 (.slice A' (k + 1) cap')).f3.f3
        rw [← mks_up] at hJ4
        generalize w_.setCell ⟨b, 2, none⟩ (.slice A' (k + 1) cap') = w4 at *
        clear hJ e9 d0 d1 d2 d3 f0 f1 f2 f3
        go_wp2
        exact ⟨⟨k + 1, A', cap', by go_num, by omega, hJ4⟩, by simp [intOf]; omega⟩
    · obtain rfl : n3 = k := by omega
      by_cases q : (n3 : Int) < sz
      · have z1 : decide ((n3 : Int) < sz) = true := decide_eq_true q
        have z2 : decide ((n3 : Int) < 4) = false := decide_eq_false (by unfold clamp at hn3; omega)
        have hE := (hJ.f3.set 3 (.slice (some ⟨wr.heap.size, 0, none⟩) 0 0)).emptyW (sz := 1) 3
        have es : (wr.setCell ⟨b, 3, none⟩ (.slice (some ⟨wr.heap.size, 0, none⟩) 0 0)).heap.size = wr.heap.size := by simp [World.setCell]
        rw [es] at hE
        have hK0 := ((hE.nth 6 rfl).tail.nth 3 rfl).tail
        clear es
        clear hE hJ
        go_wp2
        clear d0 d1 d2 d3 f0 f1 f2 f3
        have hK0 : Heap w0 _ (HP.slw (.slice (some ⟨wr.heap.size, 0, none⟩) 0 0) 1 0 (bts hs 0) :: HP.blk b #[.slice (some ⟨g1, o1, none⟩) 16 c1, .slice (some ⟨g2, o2, none⟩) 64 c2, .slice A n3 cap, .slice (some ⟨wr.heap.size, 0, none⟩) 0 0] 61 :: HP.slw (.slice A n3 cap) 1 n3 (mks mm n3) :: HP.slw (.slice (some ⟨g1, o1, none⟩) 16 c1) 3 16 (rws c) :: HP.slw (.slice (some ⟨g2, o2, none⟩) 64 c2) 1 64 (cts c) :: L) := hK0
        go_loopw [9] (fun i wr2 => ∃ (k : Nat) (A2 : Option Addr) (cap2 : Nat), i = .int .i64 k ∧ k ≤ 6 ∧ Heap w0 wr2 (HP.slw (.slice A2 k cap2) 1 k (bts hs k) :: HP.blk b #[.slice (some ⟨g1, o1, none⟩) 16 c1, .slice (some ⟨g2, o2, none⟩) 64 c2, .slice A n3 cap, .slice A2 k cap2] 61 :: HP.slw (.slice A n3 cap) 1 n3 (mks mm n3) :: HP.slw (.slice (some ⟨g1, o1, none⟩) 16 c1) 3 16 (rws c) :: HP.slw (.slice (some ⟨g2, o2, none⟩) 64 c2) 1 64 (cts c) :: L)) (fun i _ => 6 - (intOf i).toNat)
        case atStart => exact ⟨0, _, 0, rfl, Nat.zero_le _, hK0⟩
        case round =>
          obtain ⟨k, A2, cap2, rfl, hk6, hK⟩ := hrel
          clear hK0
          have hbl := lt_of_heap' hK.f2.heap
          by_cases hlt6 : k < 6
          · have Hsp_ : Hid (∀ g, spare (.slice A2 k cap2) = some g → g < wr.heap.size) := hide fun g hg => hK.slw.blk_lt (spare_blk hg)
            have hq : 0 ≤ hs / 2 ^ k ∧ hs / 2 ^ k < 18446744073709551616 := ⟨Int.ediv_nonneg h0 (Int.pow_nonneg (by decide)), Int.lt_of_le_of_lt (Int.ediv_le_self _ h0) h1⟩
            go_wp2
            refine wp_region_XE 11 (fun fl_ w_ => (w_.heap[b]? = some (.cells #[.slice (some ⟨g1, o1, none⟩) 16 c1, .slice (some ⟨g2, o2, none⟩) 64 c2, .slice A n3 cap, .slice A2 k cap2] 61 (0, 0))) ∧ wr.heap.size ≤ w_.heap.size ∧ (fl_ = false → Heap w0 w_ (HP.slw (.slice A2 k cap2) 1 k (bts hs k) :: HP.blk b #[.slice (some ⟨g1, o1, none⟩) 16 c1, .slice (some ⟨g2, o2, none⟩) 64 c2, .slice A n3 cap, .slice A2 k cap2] 61 :: HP.slw (.slice A n3 cap) 1 n3 (mks mm n3) :: HP.slw (.slice (some ⟨g1, o1, none⟩) 16 c1) 3 16 (rws c) :: HP.slw (.slice (some ⟨g2, o2, none⟩) 64 c2) 1 64 (cts c) :: L))) (fun i_ x_ y_ => match i_ with | 11 => x_.grownBy y_ (spare (.slice A2 k cap2)) | _ => (∀ L_, Heap w0 x_ L_ → Heap w0 y_ L_) ∧ GN x_ y_) (fun k_ v_ w_ => match k_ with
                | 0 => v_ = .pointer (some ⟨b, 0, none⟩)
                | 1 => v_ = .pointer (some ⟨b, 0, none⟩)
                | 2 => v_ = .pointer (some ⟨b, 0, none⟩)
                | 3 => v_ = .pointer (some ⟨b, 3, none⟩)
                | 4 => v_ = .slice A2 k cap2
                | 5 => v_ = .int .u64 hs
                | 6 => v_ = .int .i64 (k : Nat)
                | 7 => v_ = .int .u64 (hs / 2 ^ k)
                | 8 => v_ = .int .u64 (hs / 2 ^ k % 2)
                | 9 => v_ = .int .i64 (hs / 2 ^ k % 2)
                | 10 => ∃ kk : Nat, v_ = .slice (some ⟨kk, 0, none⟩) 1 1 ∧ wr.heap.size ≤ kk ∧ w_.heap[kk]? = some (.cells #[.int .i64 (hs / 2 ^ k % 2)] 3 (0, 0))
                | 11 => Heap w0 w_ (HP.slw v_ 1 (k + 1) (bts hs k ++ [.int .i64 (hs / 2 ^ k % 2)]) :: HP.blk b #[.slice (some ⟨g1, o1, none⟩) 16 c1, .slice (some ⟨g2, o2, none⟩) 64 c2, .slice A n3 cap, .slice A2 k cap2] 61 :: HP.slw (.slice A n3 cap) 1 n3 (mks mm n3) :: HP.slw (.slice (some ⟨g1, o1, none⟩) 16 c1) 3 16 (rws c) :: HP.slw (.slice (some ⟨g2, o2, none⟩) 64 c2) 1 64 (cts c) :: L)
                | 12 => v_ = .pointer (some ⟨b, 0, none⟩)
                | _ => v_ = .pointer (some ⟨b, 3, none⟩)) fol (by kernel_rfl) ?_ ?_ (by decide) (n := 14) rfl rfl rfl (by kernel_rfl) ?_ ?_
            · exact ⟨hK.f2.heap, Nat.le_refl _, fun _ => hK.drew⟩
            · intro i_ k_ v_ w_ w2_ hne h1 hg
              split at h1
              all_goals first
                | exact h1
                | (obtain ⟨kk, e_, q_, r_⟩ := h1; split at hg; exact ⟨kk, e_, q_, (World.grownBy.block hg kk (lt_of_heap' r_) (fun c_ => by have := unhide Hsp_ _ c_.symm; omega)).trans r_⟩; exact ⟨kk, e_, q_, hg.2.heap r_⟩)
                | (split at hg; exact absurd rfl hne; exact hg.1 _ h1)
            · intro vals
              show wpX _ _ _ _ _ _ _ 0 (_ :: _) _
              refine wpX_cons (xval (.pointer (some ⟨b, 0, none⟩)) (fun _ => ⟨fun _ h_ => h_, GN.refl _⟩) (by decide) fun fl_ w_ hJ hd => ?_) ?_
              · exact ⟨by kernel_rfl, by kernel_rfl, rfl⟩
              refine wpX_cons (xval (.pointer (some ⟨b, 0, none⟩)) (fun _ => ⟨fun _ h_ => h_, GN.refl _⟩) (by decide) fun fl_ w_ hJ hd => ?_) ?_
              · exact ⟨by kernel_rfl, by kernel_rfl, rfl⟩
              refine wpX_cons (xval (.pointer (some ⟨b, 0, none⟩)) (fun _ => ⟨fun _ h_ => h_, GN.refl _⟩) (by decide) fun fl_ w_ hJ hd => ?_) ?_
              · have e1 : vals 1 = _ := hd 1 (by decide) (by kernel_rfl)
                rw [e1]
                exact ⟨by kernel_rfl, by kernel_rfl, rfl⟩
              refine wpX_cons (xval (.pointer (some ⟨b, 3, none⟩)) (fun _ => ⟨fun _ h_ => h_, GN.refl _⟩) (by decide) fun fl_ w_ hJ hd => ?_) ?_
              · have e2 : vals 2 = _ := hd 2 (by decide) (by kernel_rfl)
                rw [e2]
                exact ⟨by kernel_rfl, by kernel_rfl, rfl⟩
              refine wpX_cons (xop (Instr.loadAt 45 (.pointer (some ⟨b, 3, none⟩))) (.slice A2 k cap2) (fun _ => ⟨fun _ h_ => h_, GN.refl _⟩) (by decide) fun fl_ w_ hJ hd => ?_) ?_
              · have e3 : vals 3 = _ := hd 3 (by decide) (by kernel_rfl)
                rw [e3]
                exact ⟨by kernel_rfl, by kernel_rfl, run_load1 (by kernel_rfl) (cells4f hJ.1).2.2.2.1, rfl⟩
              refine wpX_cons (xval (.int .u64 hs) (fun _ => ⟨fun _ h_ => h_, GN.refl _⟩) (by decide) fun fl_ w_ hJ hd => ?_) ?_
              · exact ⟨by kernel_rfl, by kernel_rfl, rfl⟩
              refine wpX_cons (xval (.int .i64 (k : Nat)) (fun _ => ⟨fun _ h_ => h_, GN.refl _⟩) (by decide) fun fl_ w_ hJ hd => ?_) ?_
              · exact ⟨by kernel_rfl, by kernel_rfl, rfl⟩
              refine wpX_cons (xop (binOp .shr 22 (.int .u64 hs) (.int .i64 (k : Nat))) (.int .u64 (hs / 2 ^ k)) (fun _ => ⟨fun _ h_ => h_, GN.refl _⟩) (by decide) fun fl_ w_ hJ hd => ?_) ?_
              · have e5 : vals 5 = _ := hd 5 (by decide) (by kernel_rfl)
                have e6 : vals 6 = _ := hd 6 (by decide) (by kernel_rfl)
                rw [e5, e6]
                exact ⟨by kernel_rfl, by kernel_rfl, run_shr64 hs k (by omega) w_, rfl⟩
              refine wpX_cons (xop (binOp .and 22 (.int .u64 (hs / 2 ^ k)) (.int .u64 1)) (.int .u64 (hs / 2 ^ k % 2)) (fun _ => ⟨fun _ h_ => h_, GN.refl _⟩) (by decide) fun fl_ w_ hJ hd => ?_) ?_
              · have e7 : vals 7 = _ := hd 7 (by decide) (by kernel_rfl)
                rw [e7]
                exact ⟨by kernel_rfl, by kernel_rfl, run_and1 (hs / 2 ^ k) hq.1 hq.2 w_, rfl⟩
              refine wpX_cons (xop (convert 22 3 (.int .u64 (hs / 2 ^ k % 2))) (.int .i64 (hs / 2 ^ k % 2)) (fun _ => ⟨fun _ h_ => h_, GN.refl _⟩) (by decide) fun fl_ w_ hJ hd => ?_) ?_
              · have e8 : vals 8 = _ := hd 8 (by decide) (by kernel_rfl)
                rw [e8]
                exact ⟨by kernel_rfl, by kernel_rfl, run_cv (hs / 2 ^ k % 2) (by omega) (by omega) w_, rfl⟩
              refine wpX_cons (xmake (by decide) fun fl_ w_ hJ hd => ?_) ?_
              · have e9 : vals 9 = _ := hd 9 (by decide) (by kernel_rfl)
                rw [e9]
                exact ⟨by kernel_rfl, _, w_.alloc (.cells #[.int .i64 (hs / 2 ^ k % 2)] 3), (by kernel_rfl : _ = Result.ok (Next.value (.slice (some ⟨w_.heap.size, 0, none⟩) 1 1)) _), ⟨(grown_b1 _ _).heap hJ.1, Nat.le_trans hJ.2.1 (by simp), fun h_ => (hJ.2.2 h_).alloc _⟩, ⟨fun _ h_ => h_.alloc _, grown_b1 _ _⟩, w_.heap.size, rfl, hJ.2.1, heap_new' _ _⟩
              refine wpX_cons (xevent rfl fun w_ hJ hd => ?_) ?_
              · have e4 : vals 4 = _ := hd 4 (by decide) (by kernel_rfl)
                have e10 : ∃ kk : Nat, (vals 10) = .slice (some ⟨kk, 0, none⟩) 1 1 ∧ wr.heap.size ≤ kk ∧ w_.heap[kk]? = some (.cells #[.int .i64 (hs / 2 ^ k % 2)] 3 (0, 0)) := hd 10 (by decide) (by kernel_rfl)
                rw [e4]
                obtain ⟨kk, e_, q_, r_⟩ := e10
                rw [e_]
                have hB_ := hJ.2.2 rfl
                obtain ⟨v', w', hr_, hsl_, hgr_, hblk_, _⟩ := run_append_sl (P := Try.prog) w_ 45 45 3 j0 _ 1 8 Try.underlying45 hj hy0 hy1 hy2 rfl hB_.slw (sl_blk (n := 1) (sz := 1) (xs := [.int .i64 (hs / 2 ^ k % 2)]) r_ rfl) (by simp; rfl) (by omega) (by omega)
                have hA_ := hB_.appendw hsl_ hgr_ hblk_
                exact ⟨by kernel_rfl, v', w', Eq.trans (b := Sem.run Try.prog (do let r ← Builtin.append_ #[45, 45] 45 #[.slice A2 k cap2, .slice (some ⟨kk, 0, none⟩) 1 1]; pure (Next.value r)) w_) (by kernel_rfl) (run_val hr_), ⟨hA_.f2.heap, Nat.le_trans hJ.2.1 hgr_.size, fun h_ => by cases h_⟩, hgr_, hA_⟩
              refine wpX_cons (xval (.pointer (some ⟨b, 0, none⟩)) (fun _ => ⟨fun _ h_ => h_, GN.refl _⟩) (by decide) fun fl_ w_ hJ hd => ?_) ?_
              · have e0 : vals 0 = _ := hd 0 (by decide) (by kernel_rfl)
                rw [e0]
                exact ⟨by kernel_rfl, by kernel_rfl, rfl⟩
              refine wpX_cons (xval (.pointer (some ⟨b, 3, none⟩)) (fun _ => ⟨fun _ h_ => h_, GN.refl _⟩) (by decide) fun fl_ w_ hJ hd => ?_) wpX_nil
              · have e12 : vals 12 = _ := hd 12 (by decide) (by kernel_rfl)
                rw [e12]
                exact ⟨by kernel_rfl, by kernel_rfl, rfl⟩
            · intro vals w_ hJ hf
              have e0 : vals 0 = _ := hf 0 (by decide)
              have e1 : vals 1 = _ := hf 1 (by decide)
              have e2 : vals 2 = _ := hf 2 (by decide)
              have e3 : vals 3 = _ := hf 3 (by decide)
              have e4 : vals 4 = _ := hf 4 (by decide)
              have e5 : vals 5 = _ := hf 5 (by decide)
              have e6 : vals 6 = _ := hf 6 (by decide)
              have e7 : vals 7 = _ := hf 7 (by decide)
              have e8 : vals 8 = _ := hf 8 (by decide)
              have e9 : vals 9 = _ := hf 9 (by decide)
              have e12 : vals 12 = _ := hf 12 (by decide)
              have e13 : vals 13 = _ := hf 13 (by decide)
              have e11 : Heap w0 w_ (HP.slw (vals 11) 1 (k + 1) (bts hs k ++ [.int .i64 (hs / 2 ^ k % 2)]) :: HP.blk b #[.slice (some ⟨g1, o1, none⟩) 16 c1, .slice (some ⟨g2, o2, none⟩) 64 c2, .slice A n3 cap, .slice A2 k cap2] 61 :: HP.slw (.slice A n3 cap) 1 n3 (mks mm n3) :: HP.slw (.slice (some ⟨g1, o1, none⟩) 16 c1) 3 16 (rws c) :: HP.slw (.slice (some ⟨g2, o2, none⟩) 64 c2) 1 64 (cts c) :: L) := hf 11 (by decide)
              show Oper.wp _ _ (fillG vals 0 (_ :: _ :: _ :: _ :: _ :: _ :: _ :: _ :: _ :: _ :: _ :: _ :: _ :: _ :: []) _) _ _ _
              simp only [fillG, Nat.zero_add, Nat.reduceAdd, e0, e1, e2, e3, e4, e5, e6, e7, e8, e9, e12, e13, Act.put, List.setIfInBounds_toArray, List.set_cons_succ, List.set_cons_zero]
              clear e0 e1 e2 e3 e4 e5 e6 e7 e8 e9 e12 e13 hf
              generalize vals 10 = v10 at *
              generalize vals 11 = v11 at *
              obtain ⟨A', cap', rfl, _⟩ := e11.slw.parts
              obtain ⟨d0, d1, d2, d3, f0, f1, f2, f3⟩ := cells4f e11.f2.heap
              refine wp_last_skip (w' := w_.setCell ⟨b, 3, none⟩ (.slice A' (k + 1) cap')) (m := Instr.storeAt 45 (.pointer (some ⟨b, 3, none⟩)) (.slice A' (k + 1) cap')) (by kernel_rfl) (run_store1 (by kernel_rfl) rfl rfl d3 f3) ?_
              first | show Exit.then _ _ Exit.normal (Act.put ⟨_, _⟩ none _) _ | show Exit.inBlock _ _ Exit.normal (Act.put ⟨_, _⟩ none _) _
              simp only [Act.put]
              have hJ4 := (e11.f2.set 3 (.slice A' (k + 1) cap')).f2
              rw [← bts_up] at hJ4
              generalize w_.setCell ⟨b, 3, none⟩ (.slice A' (k + 1) cap') = w4 at *
              clear hJ e11 d0 d1 d2 d3 f0 f1 f2 f3
              go_wp2
              exact ⟨⟨k + 1, A', cap', by go_num, by omega, hJ4⟩, by simp [intOf]; omega⟩
          · obtain rfl : k = 6 := by omega
            go_wp2
            have hFin := unhide Hfin
            rw [hmm] at hFin ⊢
            have e1 : bts hs 6 = hts (backS c mm sz hs) := by
              have e : backS c mm sz hs 117 = hs % 64 := rfl
              unfold hts bts
              rw [e]
              simp only [List.range_succ, List.range_zero, List.nil_append, List.map_append, List.map_cons, List.map_nil, List.cons_append]
              rw [show hs % 64 % 2 = hs / 2 ^ 0 % 2 by omega, show hs % 64 / 2 % 2 = hs / 2 ^ 1 % 2 by omega, show hs % 64 / 4 % 2 = hs / 2 ^ 2 % 2 by omega, show hs % 64 / 8 % 2 = hs / 2 ^ 3 % 2 by omega, show hs % 64 / 16 % 2 = hs / 2 ^ 4 % 2 by omega, show hs % 64 / 32 % 2 = hs / 2 ^ 5 % 2 by omega]
            have e2 : mks mm n3 = sks (backS c mm sz hs) := by rw [sks_back, hn3]; rfl
            have e3 : ∀ i, i < 112 → c i = backS c mm sz hs i := fun i hi => by unfold backS; rw [if_neg (by omega), if_neg (by omega), if_neg (by omega)]
            exact bodyPost_end (v := .tuple #[]) (by simp [results, Try.results18, go_sem]) rfl ⟨rfl, rg_mk3 hFin (rws_congr fun i hi => e3 i (by omega)) (cts_congr fun i hi => e3 _ (by omega)) (by rw [← hn3]; rfl) e2 e1 hK.soften.f5.f5.f4.f5.b4⟩
      · have z1 : decide ((n3 : Int) < sz) = false := decide_eq_false q
        have hE := (hJ.f3.set 3 (.slice (some ⟨wr.heap.size, 0, none⟩) 0 0)).emptyW (sz := 1) 3
        have es : (wr.setCell ⟨b, 3, none⟩ (.slice (some ⟨wr.heap.size, 0, none⟩) 0 0)).heap.size = wr.heap.size := by simp [World.setCell]
        rw [es] at hE
        have hK0 := ((hE.nth 6 rfl).tail.nth 3 rfl).tail
        clear es
        clear hE hJ
        go_wp2
        clear d0 d1 d2 d3 f0 f1 f2 f3
        have hK0 : Heap w0 _ (HP.slw (.slice (some ⟨wr.heap.size, 0, none⟩) 0 0) 1 0 (bts hs 0) :: HP.blk b #[.slice (some ⟨g1, o1, none⟩) 16 c1, .slice (some ⟨g2, o2, none⟩) 64 c2, .slice A n3 cap, .slice (some ⟨wr.heap.size, 0, none⟩) 0 0] 61 :: HP.slw (.slice A n3 cap) 1 n3 (mks mm n3) :: HP.slw (.slice (some ⟨g1, o1, none⟩) 16 c1) 3 16 (rws c) :: HP.slw (.slice (some ⟨g2, o2, none⟩) 64 c2) 1 64 (cts c) :: L) := hK0
        go_loopw [9] (fun i wr2 => ∃ (k : Nat) (A2 : Option Addr) (cap2 : Nat), i = .int .i64 k ∧ k ≤ 6 ∧ Heap w0 wr2 (HP.slw (.slice A2 k cap2) 1 k (bts hs k) :: HP.blk b #[.slice (some ⟨g1, o1, none⟩) 16 c1, .slice (some ⟨g2, o2, none⟩) 64 c2, .slice A n3 cap, .slice A2 k cap2] 61 :: HP.slw (.slice A n3 cap) 1 n3 (mks mm n3) :: HP.slw (.slice (some ⟨g1, o1, none⟩) 16 c1) 3 16 (rws c) :: HP.slw (.slice (some ⟨g2, o2, none⟩) 64 c2) 1 64 (cts c) :: L)) (fun i _ => 6 - (intOf i).toNat)
        case atStart => exact ⟨0, _, 0, rfl, Nat.zero_le _, hK0⟩
        case round =>
          obtain ⟨k, A2, cap2, rfl, hk6, hK⟩ := hrel
          clear hK0
          have hbl := lt_of_heap' hK.f2.heap
          by_cases hlt6 : k < 6
          · have Hsp_ : Hid (∀ g, spare (.slice A2 k cap2) = some g → g < wr.heap.size) := hide fun g hg => hK.slw.blk_lt (spare_blk hg)
            have hq : 0 ≤ hs / 2 ^ k ∧ hs / 2 ^ k < 18446744073709551616 := ⟨Int.ediv_nonneg h0 (Int.pow_nonneg (by decide)), Int.lt_of_le_of_lt (Int.ediv_le_self _ h0) h1⟩
            go_wp2
            refine wp_region_XE 11 (fun fl_ w_ => (w_.heap[b]? = some (.cells #[.slice (some ⟨g1, o1, none⟩) 16 c1, .slice (some ⟨g2, o2, none⟩) 64 c2, .slice A n3 cap, .slice A2 k cap2] 61 (0, 0))) ∧ wr.heap.size ≤ w_.heap.size ∧ (fl_ = false → Heap w0 w_ (HP.slw (.slice A2 k cap2) 1 k (bts hs k) :: HP.blk b #[.slice (some ⟨g1, o1, none⟩) 16 c1, .slice (some ⟨g2, o2, none⟩) 64 c2, .slice A n3 cap, .slice A2 k cap2] 61 :: HP.slw (.slice A n3 cap) 1 n3 (mks mm n3) :: HP.slw (.slice (some ⟨g1, o1, none⟩) 16 c1) 3 16 (rws c) :: HP.slw (.slice (some ⟨g2, o2, none⟩) 64 c2) 1 64 (cts c) :: L))) (fun i_ x_ y_ => match i_ with | 11 => x_.grownBy y_ (spare (.slice A2 k cap2)) | _ => (∀ L_, Heap w0 x_ L_ → Heap w0 y_ L_) ∧ GN x_ y_) (fun k_ v_ w_ => match k_ with
                | 0 => v_ = .pointer (some ⟨b, 0, none⟩)
                | 1 => v_ = .pointer (some ⟨b, 0, none⟩)
                | 2 => v_ = .pointer (some ⟨b, 0, none⟩)
                | 3 => v_ = .pointer (some ⟨b, 3, none⟩)
                | 4 => v_ = .slice A2 k cap2
                | 5 => v_ = .int .u64 hs
                | 6 => v_ = .int .i64 (k : Nat)
                | 7 => v_ = .int .u64 (hs / 2 ^ k)
                | 8 => v_ = .int .u64 (hs / 2 ^ k % 2)
                | 9 => v_ = .int .i64 (hs / 2 ^ k % 2)
                | 10 => ∃ kk : Nat, v_ = .slice (some ⟨kk, 0, none⟩) 1 1 ∧ wr.heap.size ≤ kk ∧ w_.heap[kk]? = some (.cells #[.int .i64 (hs / 2 ^ k % 2)] 3 (0, 0))
                | 11 => Heap w0 w_ (HP.slw v_ 1 (k + 1) (bts hs k ++ [.int .i64 (hs / 2 ^ k % 2)]) :: HP.blk b #[.slice (some ⟨g1, o1, none⟩) 16 c1, .slice (some ⟨g2, o2, none⟩) 64 c2, .slice A n3 cap, .slice A2 k cap2] 61 :: HP.slw (.slice A n3 cap) 1 n3 (mks mm n3) :: HP.slw (.slice (some ⟨g1, o1, none⟩) 16 c1) 3 16 (rws c) :: HP.slw (.slice (some ⟨g2, o2, none⟩) 64 c2) 1 64 (cts c) :: L)
                | 12 => v_ = .pointer (some ⟨b, 0, none⟩)
                | _ => v_ = .pointer (some ⟨b, 3, none⟩)) fol (by kernel_rfl) ?_ ?_ (by decide) (n := 14) rfl rfl rfl (by kernel_rfl) ?_ ?_
            · exact ⟨hK.f2.heap, Nat.le_refl _, fun _ => hK.drew⟩
            · intro i_ k_ v_ w_ w2_ hne h1 hg
              split at h1
              all_goals first
                | exact h1
                | (obtain ⟨kk, e_, q_, r_⟩ := h1; split at hg; exact ⟨kk, e_, q_, (World.grownBy.block hg kk (lt_of_heap' r_) (fun c_ => by have := unhide Hsp_ _ c_.symm; omega)).trans r_⟩; exact ⟨kk, e_, q_, hg.2.heap r_⟩)
                | (split at hg; exact absurd rfl hne; exact hg.1 _ h1)
            · intro vals
              show wpX _ _ _ _ _ _ _ 0 (_ :: _) _
              refine wpX_cons (xval (.pointer (some ⟨b, 0, none⟩)) (fun _ => ⟨fun _ h_ => h_, GN.refl _⟩) (by decide) fun fl_ w_ hJ hd => ?_) ?_
              · exact ⟨by kernel_rfl, by kernel_rfl, rfl⟩
              refine wpX_cons (xval (.pointer (some ⟨b, 0, none⟩)) (fun _ => ⟨fun _ h_ => h_, GN.refl _⟩) (by decide) fun fl_ w_ hJ hd => ?_) ?_
              · exact ⟨by kernel_rfl, by kernel_rfl, rfl⟩
              refine wpX_cons (xval (.pointer (some ⟨b, 0, none⟩)) (fun _ => ⟨fun _ h_ => h_, GN.refl _⟩) (by decide) fun fl_ w_ hJ hd => ?_) ?_
              · have e1 : vals 1 = _ := hd 1 (by decide) (by kernel_rfl)
                rw [e1]
                exact ⟨by kernel_rfl, by kernel_rfl, rfl⟩
              refine wpX_cons (xval (.pointer (some ⟨b, 3, none⟩)) (fun _ => ⟨fun _ h_ => h_, GN.refl _⟩) (by decide) fun fl_ w_ hJ hd => ?_) ?_
              · have e2 : vals 2 = _ := hd 2 (by decide) (by kernel_rfl)
                rw [e2]
                exact ⟨by kernel_rfl, by kernel_rfl, rfl⟩
              refine wpX_cons (xop (Instr.loadAt 45 (.pointer (some ⟨b, 3, none⟩))) (.slice A2 k cap2) (fun _ => ⟨fun _ h_ => h_, GN.refl _⟩) (by decide) fun fl_ w_ hJ hd => ?_) ?_
              · have e3 : vals 3 = _ := hd 3 (by decide) (by kernel_rfl)
                rw [e3]
                exact ⟨by kernel_rfl, by kernel_rfl, run_load1 (by kernel_rfl) (cells4f hJ.1).2.2.2.1, rfl⟩
              refine wpX_cons (xval (.int .u64 hs) (fun _ => ⟨fun _ h_ => h_, GN.refl _⟩) (by decide) fun fl_ w_ hJ hd => ?_) ?_
              · exact ⟨by kernel_rfl, by kernel_rfl, rfl⟩
              refine wpX_cons (xval (.int .i64 (k : Nat)) (fun _ => ⟨fun _ h_ => h_, GN.refl _⟩) (by decide) fun fl_ w_ hJ hd => ?_) ?_
              · exact ⟨by kernel_rfl, by kernel_rfl, rfl⟩
              refine wpX_cons (xop (binOp .shr 22 (.int .u64 hs) (.int .i64 (k : Nat))) (.int .u64 (hs / 2 ^ k)) (fun _ => ⟨fun _ h_ => h_, GN.refl _⟩) (by decide) fun fl_ w_ hJ hd => ?_) ?_
              · have e5 : vals 5 = _ := hd 5 (by decide) (by kernel_rfl)
                have e6 : vals 6 = _ := hd 6 (by decide) (by kernel_rfl)
                rw [e5, e6]
                exact ⟨by kernel_rfl, by kernel_rfl, run_shr64 hs k (by omega) w_, rfl⟩
              refine wpX_cons (xop (binOp .and 22 (.int .u64 (hs / 2 ^ k)) (.int .u64 1)) (.int .u64 (hs / 2 ^ k % 2)) (fun _ => ⟨fun _ h_ => h_, GN.refl _⟩) (by decide) fun fl_ w_ hJ hd => ?_) ?_
              · have e7 : vals 7 = _ := hd 7 (by decide) (by kernel_rfl)
                rw [e7]
                exact ⟨by kernel_rfl, by kernel_rfl, run_and1 (hs / 2 ^ k) hq.1 hq.2 w_, rfl⟩
              refine wpX_cons (xop (convert 22 3 (.int .u64 (hs / 2 ^ k % 2))) (.int .i64 (hs / 2 ^ k % 2)) (fun _ => ⟨fun _ h_ => h_, GN.refl _⟩) (by decide) fun fl_ w_ hJ hd => ?_) ?_
              · have e8 : vals 8 = _ := hd 8 (by decide) (by kernel_rfl)
                rw [e8]
                exact ⟨by kernel_rfl, by kernel_rfl, run_cv (hs / 2 ^ k % 2) (by omega) (by omega) w_, rfl⟩
              refine wpX_cons (xmake (by decide) fun fl_ w_ hJ hd => ?_) ?_
              · have e9 : vals 9 = _ := hd 9 (by decide) (by kernel_rfl)
                rw [e9]
                exact ⟨by kernel_rfl, _, w_.alloc (.cells #[.int .i64 (hs / 2 ^ k % 2)] 3), (by kernel_rfl : _ = Result.ok (Next.value (.slice (some ⟨w_.heap.size, 0, none⟩) 1 1)) _), ⟨(grown_b1 _ _).heap hJ.1, Nat.le_trans hJ.2.1 (by simp), fun h_ => (hJ.2.2 h_).alloc _⟩, ⟨fun _ h_ => h_.alloc _, grown_b1 _ _⟩, w_.heap.size, rfl, hJ.2.1, heap_new' _ _⟩
              refine wpX_cons (xevent rfl fun w_ hJ hd => ?_) ?_
              · have e4 : vals 4 = _ := hd 4 (by decide) (by kernel_rfl)
                have e10 : ∃ kk : Nat, (vals 10) = .slice (some ⟨kk, 0, none⟩) 1 1 ∧ wr.heap.size ≤ kk ∧ w_.heap[kk]? = some (.cells #[.int .i64 (hs / 2 ^ k % 2)] 3 (0, 0)) := hd 10 (by decide) (by kernel_rfl)
                rw [e4]
                obtain ⟨kk, e_, q_, r_⟩ := e10
                rw [e_]
                have hB_ := hJ.2.2 rfl
                obtain ⟨v', w', hr_, hsl_, hgr_, hblk_, _⟩ := run_append_sl (P := Try.prog) w_ 45 45 3 j0 _ 1 8 Try.underlying45 hj hy0 hy1 hy2 rfl hB_.slw (sl_blk (n := 1) (sz := 1) (xs := [.int .i64 (hs / 2 ^ k % 2)]) r_ rfl) (by simp; rfl) (by omega) (by omega)
                have hA_ := hB_.appendw hsl_ hgr_ hblk_
                exact ⟨by kernel_rfl, v', w', Eq.trans (b := Sem.run Try.prog (do let r ← Builtin.append_ #[45, 45] 45 #[.slice A2 k cap2, .slice (some ⟨kk, 0, none⟩) 1 1]; pure (Next.value r)) w_) (by kernel_rfl) (run_val hr_), ⟨hA_.f2.heap, Nat.le_trans hJ.2.1 hgr_.size, fun h_ => by cases h_⟩, hgr_, hA_⟩
              refine wpX_cons (xval (.pointer (some ⟨b, 0, none⟩)) (fun _ => ⟨fun _ h_ => h_, GN.refl _⟩) (by decide) fun fl_ w_ hJ hd => ?_) ?_
              · have e0 : vals 0 = _ := hd 0 (by decide) (by kernel_rfl)
                rw [e0]
                exact ⟨by kernel_rfl, by kernel_rfl, rfl⟩
              refine wpX_cons (xval (.pointer (some ⟨b, 3, none⟩)) (fun _ => ⟨fun _ h_ => h_, GN.refl _⟩) (by decide) fun fl_ w_ hJ hd => ?_) wpX_nil
              · have e12 : vals 12 = _ := hd 12 (by decide) (by kernel_rfl)
                rw [e12]
                exact ⟨by kernel_rfl, by kernel_rfl, rfl⟩
            · intro vals w_ hJ hf
              have e0 : vals 0 = _ := hf 0 (by decide)
              have e1 : vals 1 = _ := hf 1 (by decide)
              have e2 : vals 2 = _ := hf 2 (by decide)
              have e3 : vals 3 = _ := hf 3 (by decide)
              have e4 : vals 4 = _ := hf 4 (by decide)
              have e5 : vals 5 = _ := hf 5 (by decide)
              have e6 : vals 6 = _ := hf 6 (by decide)
              have e7 : vals 7 = _ := hf 7 (by decide)
              have e8 : vals 8 = _ := hf 8 (by decide)
              have e9 : vals 9 = _ := hf 9 (by decide)
              have e12 : vals 12 = _ := hf 12 (by decide)
              have e13 : vals 13 = _ := hf 13 (by decide)
              have e11 : Heap w0 w_ (HP.slw (vals 11) 1 (k + 1) (bts hs k ++ [.int .i64 (hs / 2 ^ k % 2)]) :: HP.blk b #[.slice (some ⟨g1, o1, none⟩) 16 c1, .slice (some ⟨g2, o2, none⟩) 64 c2, .slice A n3 cap, .slice A2 k cap2] 61 :: HP.slw (.slice A n3 cap) 1 n3 (mks mm n3) :: HP.slw (.slice (some ⟨g1, o1, none⟩) 16 c1) 3 16 (rws c) :: HP.slw (.slice (some ⟨g2, o2, none⟩) 64 c2) 1 64 (cts c) :: L) := hf 11 (by decide)
              show Oper.wp _ _ (fillG vals 0 (_ :: _ :: _ :: _ :: _ :: _ :: _ :: _ :: _ :: _ :: _ :: _ :: _ :: _ :: []) _) _ _ _
              simp only [fillG, Nat.zero_add, Nat.reduceAdd, e0, e1, e2, e3, e4, e5, e6, e7, e8, e9, e12, e13, Act.put, List.setIfInBounds_toArray, List.set_cons_succ, List.set_cons_zero]
              clear e0 e1 e2 e3 e4 e5 e6 e7 e8 e9 e12 e13 hf
              generalize vals 10 = v10 at *
              generalize vals 11 = v11 at *
              obtain ⟨A', cap', rfl, _⟩ := e11.slw.parts
              obtain ⟨d0, d1, d2, d3, f0, f1, f2, f3⟩ := cells4f e11.f2.heap
              refine wp_last_skip (w' := w_.setCell ⟨b, 3, none⟩ (.slice A' (k + 1) cap')) (m := Instr.storeAt 45 (.pointer (some ⟨b, 3, none⟩)) (.slice A' (k + 1) cap')) (by kernel_rfl) (run_store1 (by kernel_rfl) rfl rfl d3 f3) ?_
              first | show Exit.then _ _ Exit.normal (Act.put ⟨_, _⟩ none _) _ | show Exit.inBlock _ _ Exit.normal (Act.put ⟨_, _⟩ none _) _
              simp only [Act.put]
              have hJ4 := (e11.f2.set 3 (.slice A' (k + 1) cap')).f2
              rw [← bts_up] at hJ4
              generalize w_.setCell ⟨b, 3, none⟩ (.slice A' (k + 1) cap') = w4 at *
              clear hJ e11 d0 d1 d2 d3 f0 f1 f2 f3
              go_wp2
              exact ⟨⟨k + 1, A', cap', by go_num, by omega, hJ4⟩, by simp [intOf]; omega⟩
          · obtain rfl : k = 6 := by omega
            go_wp2
            have hFin := unhide Hfin
            rw [hmm] at hFin ⊢
            have e1 : bts hs 6 = hts (backS c mm sz hs) := by
              have e : backS c mm sz hs 117 = hs % 64 := rfl
              unfold hts bts
              rw [e]
              simp only [List.range_succ, List.range_zero, List.nil_append, List.map_append, List.map_cons, List.map_nil, List.cons_append]
              rw [show hs % 64 % 2 = hs / 2 ^ 0 % 2 by omega, show hs % 64 / 2 % 2 = hs / 2 ^ 1 % 2 by omega, show hs % 64 / 4 % 2 = hs / 2 ^ 2 % 2 by omega, show hs % 64 / 8 % 2 = hs / 2 ^ 3 % 2 by omega, show hs % 64 / 16 % 2 = hs / 2 ^ 4 % 2 by omega, show hs % 64 / 32 % 2 = hs / 2 ^ 5 % 2 by omega]
            have e2 : mks mm n3 = sks (backS c mm sz hs) := by rw [sks_back, hn3]; rfl
            have e3 : ∀ i, i < 112 → c i = backS c mm sz hs i := fun i hi => by unfold backS; rw [if_neg (by omega), if_neg (by omega), if_neg (by omega)]
            exact bodyPost_end (v := .tuple #[]) (by simp [results, Try.results18, go_sem]) rfl ⟨rfl, rg_mk3 hFin (rws_congr fun i hi => e3 i (by omega)) (cts_congr fun i hi => e3 _ (by omega)) (by rw [← hn3]; rfl) e2 e1 hK.soften.f5.f5.f4.f5.b4⟩
end
end Go.Proofs.Ytabkkeniaepibaa
