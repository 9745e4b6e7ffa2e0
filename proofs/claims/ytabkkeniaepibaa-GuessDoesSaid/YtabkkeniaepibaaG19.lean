/- Layer 18: sameMark, sameCounters. -/
import Derived.Test.YtabkkeniaepibaaG18
import Derived.Test.YtabkkeniaepibaaG9
namespace Go.Proofs.Ytabkkeniaepibaa
open Go.RowKit

theorem flat29 : flat Try.prog 8 29 = .some [.some .u64, .some .u64, .some .u64, .some .u64] := by kernel_rfl
theorem named29 : named Try.prog 8 29 = true := by kernel_rfl
theorem kt29 : Try.prog.keyTypeAt 8 29 = true := by kernel_rfl
theorem formed29 (a b c d : Int) : (Value.agg #[.int .u64 a, .int .u64 b, .int .u64 c, .int .u64 d]).formed Try.prog 29 = true := by kernel_rfl
theorem eql29 {a b c d : Int} (h0 : 0 ≤ a ∧ a < 18446744073709551616) (h1 : 0 ≤ b ∧ b < 18446744073709551616) (h2 : 0 ≤ c ∧ c < 18446744073709551616) (h3 : 0 ≤ d ∧ d < 18446744073709551616) (w : World) :
    (binOp .eql 29 (.agg #[.int .u64 a, .int .u64 b, .int .u64 c, .int .u64 d]) (.agg #[.int .u64 a, .int .u64 b, .int .u64 c, .int .u64 d])).run Try.prog w = .ok (.bool true) w :=
  run_eql_same flat29 named29 kt29 (formed29 _ _ _ _) ⟨⟨_, rfl, wf_u64 h0⟩, ⟨_, rfl, wf_u64 h1⟩, ⟨_, rfl, wf_u64 h2⟩, ⟨_, rfl, wf_u64 h3⟩, trivial⟩
section
variable {w0 w : World} {L : List HP} {b : Nat} {c : St}
theorem Heap.rgI (h : Heap w0 w (HP.rg b c :: L)) : GI c := by
  obtain ⟨_, hI, _⟩ := Heap.rg.1 h
  exact hI
set_option maxRecDepth 100000 in
set_option maxHeartbeats 1000000 in
theorem sameMark_h (h : Heap w0 w (HP.rg b c :: L)) :
    Calls Try.prog 16 #[.agg (mkv c), .pointer (some ⟨b, 0, none⟩)] w fun r w' => r = .returned (.bool true) ∧ Heap w0 w' (HP.rg b c :: L) := by
  have heq := fun w => eql29 (h.rgI.stk 0 (by omega)) (h.rgI.stk 1 (by omega)) (h.rgI.stk 2 (by omega)) (h.rgI.stk 3 (by omega)) w
  unfold mkv
  have h1 := (h.new #[.int .u64 (c 112), .int .u64 (c 113), .int .u64 (c 114), .int .u64 (c 115), .int .i64 (c 116), .int .u64 (c 117)] 31).f2
  obtain ⟨kb, hkb⟩ : ∃ kb, w.heap.size = kb := ⟨_, rfl⟩
  rw [hkb] at h1
  clear h
  go_enter Try.func16, Try.ntmps16
  go_wp2_with fail
  refine (stackR_h h1).mono ?_
  rintro r w2 ⟨rfl, h2⟩
  clear h1 hkb
  have h3 := (h2.new #[.int .u64 0, .int .u64 0, .int .u64 0, .int .u64 0] 29)
  have c6 := cells6 h2.f2.heap
  have hkl := lt_of_heap' h2.f2.heap
  go_wp2
  go_ret
  exact ⟨rfl, h2.f2.tail.alloc _⟩
set_option maxRecDepth 100000 in
set_option maxHeartbeats 1000000 in
theorem sameCounters_h {v : Value} (h : Heap w0 w (HP.slw v 1 64 (cts c) :: L)) (hI : GI c) :
    Calls Try.prog 21 #[.agg (ctl c).toArray, v] w fun r w' => r = .returned (.bool true) ∧ Heap w0 w' (HP.slw v 1 64 (cts c) :: L) := by
  obtain ⟨g, o, cap, rfl, _⟩ := h.slw.addr (by omega)
  have h1 := (h.new (ctl c).toArray 43).f2
  obtain ⟨kb, hkb⟩ : ∃ kb, w.heap.size = kb := ⟨_, rfl⟩
  rw [hkb] at h1
  have HI := hide hI
  clear h hI
  go_enter Try.func21, Try.ntmps21
  go_wp2
  go_loopw [5] (fun i wr => ∃ k : Nat, i = .int .i64 k ∧ k ≤ 64 ∧ Heap w0 wr (HP.blk kb (ctl c).toArray 43 :: HP.slw (.slice (some ⟨g, o, none⟩) 64 cap) 1 64 (cts c) :: L)) (fun i _ => 64 - (intOf i).toNat)
  case atStart => exact ⟨0, rfl, Nat.zero_le _, h1.f2⟩
  case round =>
    obtain ⟨k, rfl, hk, hJ⟩ := hrel
    clear h1
    by_cases hlt : k < 64
    · obtain ⟨t1, t2, _⟩ := hJ.f2.slw.at_ (j := k) (by omega)
      rw [cts_get, if_pos hlt] at t2
      have q1 := (cell_blk hJ.heap k).1
      rw [ctl_get, if_pos hlt] at q1
      have hkl := lt_of_heap' hJ.heap
      have hct := (unhide HI).ctr k hlt
      generalize c (48 + k) = x at *
      go_wp2
      go_quiet (fail)
      go_wp2
      exact ⟨⟨k + 1, by go_num, by omega, hJ.drewN _⟩, by simp [intOf]; omega⟩
    · obtain rfl : k = 64 := by omega
      go_wp2
      go_ret
      exact ⟨rfl, hJ.tail⟩
end
end Go.Proofs.Ytabkkeniaepibaa
