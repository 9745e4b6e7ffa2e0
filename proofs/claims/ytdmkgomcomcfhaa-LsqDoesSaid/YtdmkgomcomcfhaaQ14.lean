/- Layer 23: fixed. -/
import Derived.Test.YtdmkgomcomcfhaaQ13
namespace Go.Proofs.Ytdmkgomcomcfhaa
open Go.RowKit

theorem x4b : (lookQ X3 2).1 = ⟨false, 0, 0⟩ := by rfl
section
variable {w0 w : World} {L : List HP}
set_option maxRecDepth 100000 in
set_option maxHeartbeats 4000000 in
theorem fixed_h (h : Heap w0 w L) : Calls Try.prog 8 #[] w fun r w' => r = .returned (.bool true) ∧ Heap w0 w' L := by
  go_enter Try.func8, Try.ntmps8
  go_wp2_with fail
  refine (new_h h).mono ?_
  rintro r w1 ⟨b, rfl, h1⟩
  unfold ptr
  clear h
  go_wp2_with fail
  refine (store_h h1 1 8 (by omega) (by omega)).mono ?_
  rintro r w2 ⟨rfl, h2⟩
  rw [x1]
  have h2 : Heap w0 w2 (HP.q b X1 :: L) := h2
  clear h1
  go_wp2_with fail
  refine (load_h h2 2 12 (by omega) (by omega)).mono ?_
  rintro r w3 ⟨rfl, h3⟩
  rw [x2]
  have h3 : Heap w0 w3 (HP.q b X2 :: L) := h3
  clear h2
  go_wp2_with fail
  refine (load_h h3 2 16 (by omega) (by omega)).mono ?_
  rintro r w4 ⟨rfl, h4⟩
  rw [x3]
  have h4 : Heap w0 w4 (HP.q b X3 :: L) := h4
  clear h3
  go_wp2_with fail
  refine (look_h h4 2).mono ?_
  rintro r w5 ⟨rfl, h5⟩
  rw [x4, x4b]
  unfold GotS.cs
  dsimp only
  clear h4
  have h6 := h5.alloc (.cells #[.bool false, .int .u8 0, .int .u64 0] 37)
  have H6 := hide h6
  clear h6 h5
  go_wp2_with fail
  refine (where_h (unhide H6) 2 4096 4 (by omega)).mono ?_
  rintro r w7 ⟨v1, rfl, h7⟩
  rw [x5] at h7 ⊢
  have h7 : Heap w0 w7 (HP.q b X4 :: L) := h7.tail
  clear H6
  go_wp2_with fail
  refine (done_h h7 2).mono ?_
  rintro r w8 ⟨rfl, h8⟩
  rw [x6]
  have h8 : Heap w0 w8 (HP.q b X5 :: L) := h8
  clear h7
  go_wp2_with fail
  refine (where_h h8 1 4098 2 (by omega)).mono ?_
  rintro r w9 ⟨v2, rfl, h9⟩
  rw [x7] at h9 ⊢
  have h9 : Heap w0 w9 (HP.slw v2 1 1 [.int .i64 2] :: HP.q b X6 :: L) := h9
  clear h8
  go_wp2_with fail
  refine (look_h h9.f2 2).mono ?_
  rintro r w10 ⟨rfl, h10⟩
  rw [x8.1, x8.2]
  unfold GotS.cs
  dsimp only
  clear h9
  have h11 := h10.new #[.bool true, .int .u8 0, .int .u64 0] 37
  obtain ⟨kg, hkg⟩ : ∃ k, w10.heap.size = k := ⟨_, rfl⟩
  rw [hkg] at h11
  have H11 := hide h11
  have HK := hide hkg
  clear h10 h11 hkg
  go_wp2_with fail
  rw [unhide HK]
  refine (data_h (unhide H11).f2 1 43707 (by omega)).mono ?_
  rintro r w12 ⟨rfl, h12⟩
  rw [x9]
  have h12 : Heap w0 w12 (HP.q b X7 :: HP.blk kg #[.bool true, .int .u8 0, .int .u64 0] 37 :: HP.slw v2 1 1 [.int .i64 2] :: L) := h12
  clear H11 HK
  go_wp2_with fail
  refine (look_h h12 2).mono ?_
  rintro r w13 ⟨rfl, h13⟩
  rw [x10.1, x10.2]
  unfold GotS.cs
  dsimp only
  clear h12
  have h14 := h13.new #[.bool false, .int .u8 12, .int .u64 2864381952] 37
  obtain ⟨kk, hkk⟩ : ∃ k, w13.heap.size = k := ⟨_, rfl⟩
  rw [hkk] at h14
  have H14 := hide h14
  have HK := hide hkk
  clear h13 h14 hkk
  go_wp2_with fail
  rw [unhide HK]
  refine (pop_h (unhide H14).f2).mono ?_
  rintro r w15 ⟨rfl, h15⟩
  rw [x11]
  have h15 : Heap w0 w15 (HP.q b X8 :: HP.blk kk #[.bool false, .int .u8 12, .int .u64 2864381952] 37 :: HP.blk kg #[.bool true, .int .u8 0, .int .u64 0] 37 :: HP.slw v2 1 1 [.int .i64 2] :: L) := h15
  clear H14 HK
  go_wp2_with fail
  refine (count_h h15).mono ?_
  rintro r w16 ⟨rfl, h16⟩
  rw [x12.1, x12.2]
  clear h15
  go_wp2_with fail
  refine (squash_h h16 2).mono ?_
  rintro r w17 ⟨rfl, h17⟩
  have h17 : Heap w0 w17 (HP.q b X9 :: HP.blk kk #[.bool false, .int .u8 12, .int .u64 2864381952] 37 :: HP.blk kg #[.bool true, .int .u8 0, .int .u64 0] 37 :: HP.slw v2 1 1 [.int .i64 2] :: L) := h17
  clear h16
  go_wp2_with fail
  refine (pop_h h17).mono ?_
  rintro r w18 ⟨rfl, h18⟩
  rw [x13]
  clear h17
  obtain ⟨gv, ov, cv, hv, _⟩ := h18.f4.slw.addr (by omega)
  subst hv
  obtain ⟨t1, t2, _⟩ := h18.f4.slw.at_ (j := 0) (by omega)
  replace t2 : w18.cell? ⟨gv, ov, none⟩ = some (.int .i64 2) := t2
  obtain ⟨a0, a1, a2, _, _, _⟩ := cells3f h18.f2.heap
  have hl1 := lt_of_heap' h18.f2.heap
  obtain ⟨e0, e1, e2, _, _, _⟩ := cells3f h18.f3.heap
  have hl2 := lt_of_heap' h18.f3.heap
  have H18 := hide h18.tail.tail.tail.tail
  clear h18
  go_wp2
  go_ret
  exact ⟨rfl, unhide H18⟩
end
end Go.Proofs.Ytdmkgomcomcfhaa
