/- Layer 23: right. -/
import Derived.Test.YtdmkgomcomcfhaaQ14
namespace Go.Proofs.Ytdmkgomcomcfhaa
open Go.RowKit

theorem quo_run (A s : Int) (hs : s = 1 ∨ s = 2 ∨ s = 4 ∨ s = 8) (a0 : 0 ≤ A) (a1 : A < 64) (w : World) : (binOp .quo 3 (.int .i64 A) (.int .i64 s)).run Try.prog w = .ok (.int .i64 (A / s)) w := by
  have h : IntKind.i64.wrap (A.tdiv s) = A / s := by
    rw [Int.tdiv_eq_ediv_of_nonneg a0, wrap_i64]
    rcases hs with rfl | rfl | rfl | rfl <;> (split <;> omega)
  rw [← h]
  rcases hs with rfl | rfl | rfl | rfl <;> rfl
theorem mul_run (A s : Int) (hs : s = 1 ∨ s = 2 ∨ s = 4 ∨ s = 8) (a0 : 0 ≤ A) (a1 : A < 64) (w : World) : (binOp .mul 3 (.int .i64 (A / s)) (.int .i64 s)).run Try.prog w = .ok (.int .i64 (A / s * s)) w := by
  have h : IntKind.i64.wrap (A / s * s) = A / s * s := by
    rw [wrap_i64]
    rcases hs with rfl | rfl | rfl | rfl <;> (split <;> omega)
  have h2 : (binOp .mul 3 (.int .i64 (A / s)) (.int .i64 s)).run Try.prog w = .ok (.int .i64 (IntKind.i64.wrap (A / s * s))) w := rfl
  rw [h2, h]
theorem cells5 {w : World} {b : Nat} {a0 a1 a2 a3 a4 : Value} {T : TypeId} (h : w.heap[b]? = some (.cells #[a0, a1, a2, a3, a4] T (0, 0))) :
    w.cell? ⟨b, 0, none⟩ = some a0 ∧ w.cell? ⟨b, 1, none⟩ = some a1 ∧ w.cell? ⟨b, 2, none⟩ = some a2 ∧ w.cell? ⟨b, 3, none⟩ = some a3 ∧ w.cell? ⟨b, 4, none⟩ = some a4 := by
  simp [World.cell?, h]
structure OpS where
  store : Bool
  at_ : Int
  size : Int
  v : Int
  pc : Int
def OpS.cs (x : OpS) : List Value := [.bool x.store, .int .i64 x.at_, .int .i64 x.size, .int .u64 x.v, .int .u64 x.pc]
structure OpS.ok (x : OpS) : Prop where
  at_ : -9223372036854775808 ≤ x.at_ ∧ x.at_ < 9223372036854775808
  size : -9223372036854775808 ≤ x.size ∧ x.size < 9223372036854775808
  v : 0 ≤ x.v ∧ x.v < 18446744073709551616
  pc : 0 ≤ x.pc ∧ x.pc < 18446744073709551616
def rSize (x : OpS) : Int := 2 ^ (x.size.tmod 4).natAbs
def rightO (x : OpS) : OpS := { x with size := rSize x, at_ := ((x.at_.tmod 64).natAbs : Int) / rSize x * rSize x }
section
variable {w0 w : World} {L : List HP}
set_option maxRecDepth 100000 in
set_option maxHeartbeats 4000000 in
theorem right_h (h : Heap w0 w L) (x : OpS) (hx : x.ok) : Calls Try.prog 30 #[.agg x.cs.toArray] w fun r w' => r = .returned (.agg (rightO x).cs.toArray) ∧ Heap w0 w' L := by
  obtain ⟨store, at_, size, v, pc⟩ := x
  obtain ⟨⟨a0, a1⟩, ⟨s0, s1⟩, _, _⟩ := hx
  dsimp only at a0 a1 s0 s1
  obtain ⟨R, hR⟩ : ∃ R, rightO ⟨store, at_, size, v, pc⟩ = R := ⟨_, rfl⟩
  rw [hR]
  have HR := hide hR
  clear hR
  have b1 := Int.tmod_lt_of_pos size (b := 4) (by decide)
  have b2 := Int.lt_tmod_of_pos size (b := 4) (by decide)
  have c1 := Int.tmod_lt_of_pos at_ (b := 64) (by decide)
  have c2 := Int.lt_tmod_of_pos at_ (b := 64) (by decide)
  obtain ⟨m, hm⟩ : ∃ m, size.tmod 4 = m := ⟨_, rfl⟩
  obtain ⟨B, hB⟩ : ∃ m, at_.tmod 64 = m := ⟨_, rfl⟩
  rw [hm] at b1 b2
  rw [hB] at c1 c2
  have HE := hide (And.intro hm hB)
  unfold OpS.cs
  go_enter Try.func30, Try.ntmps30
  have h1 := ((h.new #[.bool store, .int .i64 (at_), .int .i64 size, .int .u64 v, .int .u64 pc] 54).new #[.bool false, .int .i64 0, .int .i64 0, .int .u64 0, .int .u64 0] 54).new #[.int .i64 1, .int .i64 2, .int .i64 4, .int .i64 8] 3
  have E1 : (w.alloc (.cells #[.bool store, .int .i64 (at_), .int .i64 size, .int .u64 v, .int .u64 pc] 54)).heap.size = w.heap.size + 1 := by simp
  have E2 : ((w.alloc (.cells #[.bool store, .int .i64 (at_), .int .i64 size, .int .u64 v, .int .u64 pc] 54)).alloc (.cells #[.bool false, .int .i64 0, .int .i64 0, .int .u64 0, .int .u64 0] 54)).heap.size = w.heap.size + 2 := by simp
  rw [E1, E2] at h1
  clear E1 E2
  have H1 := hide h1
  clear h1 h
  go_upto_if 10 with fail
  go_cut [4] (fun s4 wx => s4 = .int .i64 (m.natAbs : Int) ∧ wx = (((w.alloc (.cells #[.bool store, .int .i64 (at_), .int .i64 size, .int .u64 v, .int .u64 pc] 54)).alloc (.cells #[.bool false, .int .i64 0, .int .i64 0, .int .u64 0, .int .u64 0] 54)).alloc (.cells #[.int .i64 1, .int .i64 2, .int .i64 4, .int .i64 8] 3)))
  case first =>
    by_cases hneg : m < 0
    · have hd : decide (m < 0) = true := decide_eq_true hneg
      go_wp2
      go_meet
      exact ⟨by go_num, rfl⟩
    · have hd : decide (m < 0) = false := decide_eq_false hneg
      go_wp2
      go_meet
      exact ⟨by go_num, rfl⟩
  case rest =>
    obtain ⟨rfl, rfl⟩ := hcut
    have h2 := unhide H1
    clear H1
    obtain ⟨k1, hk1⟩ : ∃ k, w.heap.size = k := ⟨_, rfl⟩
    obtain ⟨k2, hk2⟩ : ∃ k, w.heap.size + 1 = k := ⟨_, rfl⟩
    obtain ⟨k3, hk3⟩ : ∃ k, w.heap.size + 2 = k := ⟨_, rfl⟩
    rw [hk3, hk2, hk1] at h2
    rw [show w.heap.size + 1 + 1 = k3 from hk3, hk2, hk1]
    generalize (((w.alloc (.cells #[.bool store, .int .i64 (at_), .int .i64 size, .int .u64 v, .int .u64 pc] 54)).alloc (.cells #[.bool false, .int .i64 0, .int .i64 0, .int .u64 0, .int .u64 0] 54)).alloc (.cells #[.int .i64 1, .int .i64 2, .int .i64 4, .int .i64 8] 3)) = wa at h2 ⊢
    clear hk1 hk2 hk3
    obtain ⟨n, hn⟩ : ∃ n, m.natAbs = n := ⟨_, rfl⟩
    rw [hn]
    have hn4 : n < 4 := by omega
    obtain ⟨z, hzd⟩ : ∃ z, (2 : Int) ^ n = z := ⟨_, rfl⟩
    have hz : z = 1 ∨ z = 2 ∨ z = 4 ∨ z = 8 := by
      rw [← hzd]
      have : n = 0 ∨ n = 1 ∨ n = 2 ∨ n = 3 := by omega
      rcases this with rfl | rfl | rfl | rfl <;> decide
    have hcz : wa.cell? ⟨k3, n, none⟩ = some (.int .i64 z) := by
      have := (cell_blk (xs := [.int .i64 1, .int .i64 2, .int .i64 4, .int .i64 8]) h2.heap n).1
      rw [this, ← hzd]
      have : n = 0 ∨ n = 1 ∨ n = 2 ∨ n = 3 := by omega
      rcases this with rfl | rfl | rfl | rfl <;> rfl
    have hl3 := lt_of_heap' h2.heap
    have hl1 := lt_of_heap' h2.f3.heap
    obtain ⟨d0, d1, d2, d3, d4⟩ := cells5 h2.f3.heap
    have f1 := (cell_blk (xs := [.bool store, .int .i64 (at_), .int .i64 size, .int .u64 v, .int .u64 pc]) h2.f3.heap 1).2
    have f2 := (cell_blk (xs := [.bool store, .int .i64 (at_), .int .i64 size, .int .u64 v, .int .u64 pc]) h2.f3.heap 2).2
    have HZ := hide (And.intro hn hzd)
    have h5 : Heap w0 ((wa.setCell ⟨k1, 2, none⟩ (.int .i64 z)).setCell ⟨k1, 1, none⟩ (.int .i64 B)) (HP.blk k1 #[.bool store, .int .i64 (B), .int .i64 z, .int .u64 v, .int .u64 pc] 54 :: HP.blk k3 #[.int .i64 1, .int .i64 2, .int .i64 4, .int .i64 8] 3 :: HP.blk k2 #[.bool false, .int .i64 0, .int .i64 0, .int .u64 0, .int .u64 0] 54 :: L) :=
      (h2.f3.set 2 (.int .i64 z)).set 1 (.int .i64 B)
    have H5 := hide h5
    clear h2 hn hzd h5
    go_upto_if 24 with fail
    have h6 := unhide H5
    clear H5 d0 d1 d2 d3 d4 f1 f2 hcz hl3 hl1
    generalize (wa.setCell ⟨k1, 2, none⟩ (.int .i64 z)).setCell ⟨k1, 1, none⟩ (.int .i64 B) = wb at h6 ⊢
    obtain ⟨A, hA⟩ : ∃ A, (B.natAbs : Int) = A := ⟨_, rfl⟩
    have hA0 : 0 ≤ A := by omega
    have hA1 : A < 64 := by omega
    go_cut [4] (fun _ wx => Heap w0 wx (HP.blk k2 #[.bool false, .int .i64 0, .int .i64 0, .int .u64 0, .int .u64 0] 54 :: HP.blk k1 #[.bool store, .int .i64 (A), .int .i64 z, .int .u64 v, .int .u64 pc] 54 :: L))
    case first =>
      have hl1 := lt_of_heap' h6.heap
      obtain ⟨d0, d1, d2, d3, d4⟩ := cells5 h6.heap
      have f1 := (cell_blk (xs := [.bool store, .int .i64 (B), .int .i64 z, .int .u64 v, .int .u64 pc]) h6.heap 1).2
      have H6 := hide h6
      clear h6
      by_cases hneg : B < 0
      · have hd : decide (B < 0) = true := decide_eq_true hneg
        have hwr : IntKind.i64.wrap (-B) = A := by rw [wrap_i64]; split <;> omega
        go_wp2
        go_meet
        have h7 := (unhide H6).set 1 (.int .i64 (-B))
        have e : -B = A := by omega
        rw [e] at h7
        exact h7.f3.f3.tail
      · have hd : decide (B < 0) = false := decide_eq_false hneg
        go_wp2
        go_meet
        obtain rfl : B = A := by omega
        exact (unhide H6).f3.f3.tail
    case rest =>
      clear h6
      have h2 := hcut
      clear hcut
      have HA := hide hA
      clear hA
      go_upto_region 9 with fail
      refine wp_region_E (fun w_ => Heap w0 w_ (HP.blk k2 #[.bool false, .int .i64 0, .int .i64 0, .int .u64 0, .int .u64 0] 54 :: HP.blk k1 #[.bool store, .int .i64 (A), .int .i64 z, .int .u64 v, .int .u64 pc] 54 :: L)) (fun _ _ => True) (fun k_ v_ w_ => match k_ with
          | 0 => v_ = .pointer (some ⟨k1, 1, none⟩)
          | 1 => v_ = .int .i64 A
          | 2 => v_ = .pointer (some ⟨k1, 2, none⟩)
          | 3 => v_ = .int .i64 z
          | 4 => v_ = .int .i64 (A / z)
          | 5 => v_ = .pointer (some ⟨k1, 2, none⟩)
          | 6 => v_ = .int .i64 z
          | 7 => v_ = .int .i64 (A / z * z)
          | _ => v_ = .pointer (some ⟨k1, 1, none⟩)) fol (by kernel_rfl) ?_ ?_ (n := 9) rfl rfl rfl (by kernel_rfl) ?_ ?_
      · exact h2.drew
      · intro k_ v_ w_ w2_ h1 hg
        split at h1 <;> exact h1
      · intro vals
        show wpG _ _ _ _ _ _ 0 (_ :: _) _
        refine wpG_cons (gval (.pointer (some ⟨k1, 1, none⟩)) (fun _ => trivial) fun w_ hJ hd => ?_) ?_
        · exact ⟨by kernel_rfl, by kernel_rfl, rfl⟩
        refine wpG_cons (gop (Instr.loadAt 3 (.pointer (some ⟨k1, 1, none⟩))) (.int .i64 A) (fun _ => trivial) fun w_ hJ hd => ?_) ?_
        · have e0 : vals 0 = _ := hd 0 (by decide) (by kernel_rfl)
          rw [e0]
          exact ⟨by kernel_rfl, by kernel_rfl, run_load1 (by kernel_rfl) ((cells5 hJ.f2.heap).2.1), rfl⟩
        refine wpG_cons (gval (.pointer (some ⟨k1, 2, none⟩)) (fun _ => trivial) fun w_ hJ hd => ?_) ?_
        · exact ⟨by kernel_rfl, by kernel_rfl, rfl⟩
        refine wpG_cons (gop (Instr.loadAt 3 (.pointer (some ⟨k1, 2, none⟩))) (.int .i64 z) (fun _ => trivial) fun w_ hJ hd => ?_) ?_
        · have e2 : vals 2 = _ := hd 2 (by decide) (by kernel_rfl)
          rw [e2]
          exact ⟨by kernel_rfl, by kernel_rfl, run_load1 (by kernel_rfl) ((cells5 hJ.f2.heap).2.2.1), rfl⟩
        refine wpG_cons (gop (binOp .quo 3 (.int .i64 A) (.int .i64 z)) (.int .i64 (A / z)) (fun _ => trivial) fun w_ hJ hd => ?_) ?_
        · have e1 : vals 1 = _ := hd 1 (by decide) (by kernel_rfl)
          have e3 : vals 3 = _ := hd 3 (by decide) (by kernel_rfl)
          rw [e1, e3]
          exact ⟨by kernel_rfl, by kernel_rfl, quo_run A z hz hA0 hA1 w_, rfl⟩
        refine wpG_cons (gval (.pointer (some ⟨k1, 2, none⟩)) (fun _ => trivial) fun w_ hJ hd => ?_) ?_
        · exact ⟨by kernel_rfl, by kernel_rfl, rfl⟩
        refine wpG_cons (gop (Instr.loadAt 3 (.pointer (some ⟨k1, 2, none⟩))) (.int .i64 z) (fun _ => trivial) fun w_ hJ hd => ?_) ?_
        · have e5 : vals 5 = _ := hd 5 (by decide) (by kernel_rfl)
          rw [e5]
          exact ⟨by kernel_rfl, by kernel_rfl, run_load1 (by kernel_rfl) ((cells5 hJ.f2.heap).2.2.1), rfl⟩
        refine wpG_cons (gop (binOp .mul 3 (.int .i64 (A / z)) (.int .i64 z)) (.int .i64 (A / z * z)) (fun _ => trivial) fun w_ hJ hd => ?_) ?_
        · have e4 : vals 4 = _ := hd 4 (by decide) (by kernel_rfl)
          have e6 : vals 6 = _ := hd 6 (by decide) (by kernel_rfl)
          rw [e4, e6]
          exact ⟨by kernel_rfl, by kernel_rfl, mul_run A z hz hA0 hA1 w_, rfl⟩
        refine wpG_cons (gval (.pointer (some ⟨k1, 1, none⟩)) (fun _ => trivial) fun w_ hJ hd => ?_) wpG_nil
        · exact ⟨by kernel_rfl, by kernel_rfl, rfl⟩
      · intro vals w_ hJ hf
        have e0 : vals 0 = _ := hf 0 (by decide)
        have e1 : vals 1 = _ := hf 1 (by decide)
        have e2 : vals 2 = _ := hf 2 (by decide)
        have e3 : vals 3 = _ := hf 3 (by decide)
        have e4 : vals 4 = _ := hf 4 (by decide)
        have e5 : vals 5 = _ := hf 5 (by decide)
        have e6 : vals 6 = _ := hf 6 (by decide)
        have e7 : vals 7 = _ := hf 7 (by decide)
        have e8 : vals 8 = _ := hf 8 (by decide)
        show Oper.wp _ _ (fillG vals 0 (_ :: _ :: _ :: _ :: _ :: _ :: _ :: _ :: _ :: []) _) _ _ _
        simp only [fillG, Nat.zero_add, Nat.reduceAdd, e0, e1, e2, e3, e4, e5, e6, e7, e8, Act.put, List.setIfInBounds_toArray, List.set_cons_succ, List.set_cons_zero]
        clear e0 e1 e2 e3 e4 e5 e6 e7 e8 hf
        clear h2
        refine wp_last_skip (w' := w_.setCell ⟨k1, 1, none⟩ (.int .i64 (A / z * z))) (m := Instr.storeAt 3 (.pointer (some ⟨k1, 1, none⟩)) (.int .i64 (A / z * z))) (by kernel_rfl) (run_store1 (by kernel_rfl) rfl rfl (cells5 hJ.f2.heap).2.1 (cell_blk hJ.f2.heap 1).2) ?_
        first | show Exit.then _ _ Exit.normal (Act.put ⟨_, _⟩ none _) _ | show Exit.inBlock _ _ Exit.normal (Act.put ⟨_, _⟩ none _) _ | skip
        simp only [Act.put]
        have h3 : Heap w0 (w_.setCell ⟨k1, 1, none⟩ (.int .i64 (A / z * z))) (HP.blk k2 #[.bool false, .int .i64 0, .int .i64 0, .int .u64 0, .int .u64 0] 54 :: HP.blk k1 #[.bool store, .int .i64 (A / z * z), .int .i64 z, .int .u64 v, .int .u64 pc] 54 :: L) := Heap.f2 (hJ.f2.set 1 (.int .i64 (A / z * z)))
        generalize w_.setCell ⟨k1, 1, none⟩ (.int .i64 (A / z * z)) = w9 at h3 ⊢
        clear hJ
        have hrg := hide (range_blk (xs := [.bool store, .int .i64 (A / z * z), .int .i64 z, .int .u64 v, .int .u64 pc]) h3.f2.heap 0 5 _ rfl)
        have hth := hide (there_blk (xs := [.bool false, .int .i64 0, .int .i64 0, .int .u64 0, .int .u64 0]) (o := 0) (n := 5) h3.heap (by simp))
        have H4 := hide (show Heap w0 (w9.setCells k2 0 (#[.bool store, .int .i64 (A / z * z), .int .i64 z, .int .u64 v, .int .u64 pc] : Array Value).toList) (HP.blk k2 #[.bool store, .int .i64 (A / z * z), .int .i64 z, .int .u64 v, .int .u64 pc] 54 :: HP.blk k1 #[.bool store, .int .i64 (A / z * z), .int .i64 z, .int .u64 v, .int .u64 pc] 54 :: L) from h3.sets (xs := [.bool false, .int .i64 0, .int .i64 0, .int .u64 0, .int .u64 0]) (#[.bool store, .int .i64 (A / z * z), .int .i64 z, .int .u64 v, .int .u64 pc] : Array Value).toList 0)
        clear h3
        go_wp2_with (first
          | refine wpList_load_mid rfl 54 (.tmp 1) rfl k1 0 rfl [.bool store, .int .i64 (A / z * z), .int .i64 z, .int .u64 v, .int .u64 pc] _ (unhide hrg) Try.underlying54 rfl (by kernel_rfl) ?_
          | (refine wpList_store_mid rfl 54 (.tmp 2) (.tmp 38) rfl k2 0 #[.bool store, .int .i64 (A / z * z), .int .i64 z, .int .u64 v, .int .u64 pc] rfl rfl (unhide hth) (by kernel_rfl) (by kernel_rfl) ?_
             refine unhide ?_))
        generalize w9.setCells k2 0 (#[.bool store, .int .i64 (A / z * z), .int .i64 z, .int .u64 v, .int .u64 pc] : Array Value).toList = w5 at H4 ⊢
        refine hide ?_
        go_wp2
        exact bodyPost_ret (v := .agg #[.bool store, .int .i64 (A / z * z), .int .i64 z, .int .u64 v, .int .u64 pc]) (results_cell_row rfl _ _ k2 54 #[.bool store, .int .i64 (A / z * z), .int .i64 z, .int .u64 v, .int .u64 pc] (0, 0) _ rfl (unhide H4).heap Try.underlying54 rfl (by kernel_rfl)) rfl ⟨by rw [← unhide HR]; unfold rightO rSize; dsimp only; rw [(unhide HE).1, (unhide HE).2, (unhide HZ).1, (unhide HZ).2, unhide HA], (unhide H4).tail.tail⟩
end
end Go.Proofs.Ytdmkgomcomcfhaa
