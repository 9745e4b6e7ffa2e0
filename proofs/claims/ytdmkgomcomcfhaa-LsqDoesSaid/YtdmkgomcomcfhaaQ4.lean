/- Layer 23: a load or a store comes in; New. -/
import Derived.Test.YtdmkgomcomcfhaaQ3
namespace Go.Proofs.Ytdmkgomcomcfhaa
open Go.RowKit

theorem Ent.fresh_ok {tag pc : Int} (t0 : -9223372036854775808 ≤ tag ∧ tag < 9223372036854775808) (p0 : 0 ≤ pc ∧ pc < 18446744073709551616) (store : Bool) : (Ent.fresh tag pc store).ok :=
  ⟨t0, p0, by simp [Ent.fresh], by simp [Ent.fresh], .inl ⟨rfl, rfl⟩, by simp [Ent.fresh], by simp [Ent.fresh]⟩
theorem cnt_snoc (l : List Ent) (e : Ent) : nLd (l ++ [e]) = nLd l + (if e.store then 0 else 1) ∧ nSt (l ++ [e]) = nSt l + (if e.store then 1 else 0) := by
  unfold nLd nSt
  rw [List.countP_append, List.countP_append]
  cases hs : e.store <;> simp [hs]
theorem come_inv {q : Qs} {e : Ent} (h : QI q) (he : e.ok) (hm : mayCome q.l e.tag e.store = true) : QI ⟨q.l ++ [e], q.h⟩ := by
  unfold mayCome at hm
  simp only [Bool.and_eq_true] at hm
  obtain ⟨h1, h2⟩ := hm
  obtain ⟨c1, c2⟩ := cnt_snoc q.l e
  refine ⟨fun y hy => ?_, ?_, ?_, ?_, h.hb⟩
  · rcases List.mem_append.1 hy with hy | hy
    · exact h.ok y hy
    · rw [List.mem_singleton.1 hy]; exact he
  · show (q.l ++ [e]).Pairwise _
    rw [List.pairwise_append]
    refine ⟨h.up, List.pairwise_singleton _ _, fun a ha y hy => ?_⟩
    rw [List.mem_singleton.1 hy]
    unfold lastTag at h1
    cases hl : q.l.getLast? with
    | none => rw [List.getLast?_eq_none_iff] at hl; rw [hl] at ha; cases ha
    | some z =>
      rw [hl] at h1
      simp only [Option.map_some, decide_eq_true_eq] at h1
      obtain ⟨l', hl'⟩ := List.getLast?_eq_some_iff.1 hl
      have hp := h.up
      rw [hl', List.pairwise_append] at hp
      rw [hl'] at ha
      rcases List.mem_append.1 ha with ha | ha
      · have := hp.2.2 a ha z (by simp); omega
      · rw [List.mem_singleton.1 ha]; exact h1
  · show nLd (q.l ++ [e]) ≤ 8
    rw [c1]
    have := h.ld
    split at h2 <;> simp_all <;> omega
  · show nSt (q.l ++ [e]) ≤ 8
    rw [c2]
    have := h.st
    split at h2 <;> simp_all <;> omega
theorem info74 : (Try.prog.info? 74).map (fun i => (i.zero, i.size, i.bytes)) = some (some (.pointer none), 1, 8) := by kernel_rfl
section
variable {w0 w : World} {L : List HP} {b : Nat} {q : Qs}
set_option maxRecDepth 100000 in
set_option maxHeartbeats 2000000 in
theorem come_h {x : Nat} {e : Ent} (h : Heap w0 w (HP.q b q :: HP.blk x e.cs.toArray 76 :: L)) (he : e.ok) :
    Calls Try.prog 33 #[ptr b, ptr x] w fun r w' => r = .returned (.bool (mayCome q.l e.tag e.store)) ∧ Heap w0 w' (HP.q b (if mayCome q.l e.tag e.store then ⟨q.l ++ [e], q.h⟩ else q) :: L) := by
  obtain ⟨A, cap, bs, hR, hh⟩ := h.qr
  have hxb := hh.f4.heap
  obtain ⟨d0, d1, d2, d3, d4, d5, d6, d7, d8⟩ := cells9 hxb
  have hxl := lt_of_heap' hxb
  obtain ⟨q0, _, hbl⟩ := hR.c0
  have hcount := hide (count_any hR)
  have hl1 := hR.inv.ld
  have hl2 := hR.inv.st
  have hcnt := cnt q.l
  have HR := hide hR
  obtain ⟨n, hn⟩ : ∃ n, q.l.length = n := ⟨_, rfl⟩
  rw [hn] at hh q0 hcnt
  have Hn := hide hn
  have hn16 : n ≤ 16 := by omega
  have HQ := hide h
  have HB := hide hh
  obtain ⟨ld, hld⟩ : ∃ ld, nLd q.l = ld := ⟨_, rfl⟩
  obtain ⟨st, hst⟩ : ∃ st, nSt q.l = st := ⟨_, rfl⟩
  have Hld := hide hld
  have Hst := hide hst
  rw [hld] at hcount hl1 hcnt
  rw [hst] at hcount hl2 hcnt
  obtain ⟨i0, hi, hz0, hz1, hz2⟩ := info_parts info74
  clear hld hst hR hn h hh hxb
  obtain ⟨mb, hmb⟩ : ∃ mb, mayCome q.l e.tag e.store = mb := ⟨_, rfl⟩
  obtain ⟨q2, hq2⟩ : ∃ q2 : Qs, (if mb then ⟨q.l ++ [e], q.h⟩ else q) = q2 := ⟨_, rfl⟩
  have hinv := fun hh : mb = true => come_inv (unhide HR).inv he (hmb.trans hh)
  rw [hmb, hq2]
  have Hmb := hide hmb
  have Hq2 := hide hq2
  have Hinv := hide hinv
  clear hmb hq2 hinv
  unfold ptr
  go_enter Try.func33, Try.ntmps33
  go_wp2_with fail
  refine (unhide hcount).mono ?_
  rintro r w1 ⟨rfl, hw1⟩
  replace hw1 := hw1.symm
  subst hw1
  clear hcount
  by_cases hn0 : n = 0
  · subst hn0
    have hlt : lastTag q.l = none := by
      have := List.eq_nil_of_length_eq_zero (unhide Hn)
      unfold lastTag; rw [this]; rfl
    obtain rfl : st = 0 := by omega
    obtain rfl : ld = 0 := by omega
    have HM : Hid (mb = true) := hide (by rw [← unhide Hmb]; unfold mayCome; rw [hlt, unhide Hst, unhide Hld]; cases e.store <;> rfl)
    cases hs : e.store with
    | true =>
      rw [hs] at d2
      go_wp2
      go_quiet (fail)
      have hJ := (unhide HB).drewN nq
      obtain ⟨c0, f0⟩ := cell_blk hJ.heap 0
      rw [qcs_0] at c0
      have hbl := lt_of_heap' hJ.heap
      clear q0
      go_wp2_with (at_builtin; refine wpList_append_sl (n := 0) (m := 1) rfl _ _ 64 rfl 74 i0 _ 1 8 Try.underlying64 hi hz0 hz1 hz2 rfl rfl rfl (hJ.f2.slw.alloc _) (Sl.single _ 74 (ptr x) (by simp)) (by simp; rfl) (by omega) (by omega) ?_; intro v' w' hsl hgr hblk hsp; obtain ⟨A', cap', rfl, _⟩ := hsl.parts; have hA := (hJ.f2.alloc _).appendw hsl hgr hblk; clear c0 f0 hbl hsl hgr hblk hsp; obtain ⟨c0, f0⟩ := cell_blk hA.f2.heap 0; rw [qcs_0] at c0; have hbl := lt_of_heap' hA.f2.heap)
      have hC := hA.f2.setl 0 (.slice A' (0 + 1) cap')
      rw [qcs_set0] at hC
      clear hA c0 f0 hbl
      go_ret
      refine ⟨by rw [unhide HM]; rfl, ?_⟩
      rw [← unhide Hq2, unhide HM]
      have hlen : (q.l ++ [e]).length = 0 + 1 := by rw [List.length_append, unhide Hn]; rfl
      refine Heap.qc (q := ⟨q.l ++ [e], q.h⟩) (A := A') (cap := cap') (bs := bs ++ [x]) (unhide Hinv (unhide HM)) (by rw [List.length_append, (unhide HR).lenl]; simp) ?_
      show Heap w0 _ (HP.blk b (qcs (.slice A' (q.l ++ [e]).length cap') q.h).toArray 69 :: HP.slw (.slice A' (q.l ++ [e]).length cap') 1 (q.l ++ [e]).length (ptrs (bs ++ [x])) :: HP.ents (bs ++ [x]) (q.l ++ [e]) :: L)
      rw [hlen, show ptrs (bs ++ [x]) = ptrs bs ++ [ptr x] by simp [ptrs]]
      exact (Heap.ents_snoc hC.f4.f4 (unhide HR).lenl).b3
    | false =>
      rw [hs] at d2
      go_wp2
      go_quiet (fail)
      have hJ := (unhide HB).drewN nq
      obtain ⟨c0, f0⟩ := cell_blk hJ.heap 0
      rw [qcs_0] at c0
      have hbl := lt_of_heap' hJ.heap
      clear q0
      go_wp2_with (at_builtin; refine wpList_append_sl (n := 0) (m := 1) rfl _ _ 64 rfl 74 i0 _ 1 8 Try.underlying64 hi hz0 hz1 hz2 rfl rfl rfl (hJ.f2.slw.alloc _) (Sl.single _ 74 (ptr x) (by simp)) (by simp; rfl) (by omega) (by omega) ?_; intro v' w' hsl hgr hblk hsp; obtain ⟨A', cap', rfl, _⟩ := hsl.parts; have hA := (hJ.f2.alloc _).appendw hsl hgr hblk; clear c0 f0 hbl hsl hgr hblk hsp; obtain ⟨c0, f0⟩ := cell_blk hA.f2.heap 0; rw [qcs_0] at c0; have hbl := lt_of_heap' hA.f2.heap)
      have hC := hA.f2.setl 0 (.slice A' (0 + 1) cap')
      rw [qcs_set0] at hC
      clear hA c0 f0 hbl
      go_ret
      refine ⟨by rw [unhide HM]; rfl, ?_⟩
      rw [← unhide Hq2, unhide HM]
      have hlen : (q.l ++ [e]).length = 0 + 1 := by rw [List.length_append, unhide Hn]; rfl
      refine Heap.qc (q := ⟨q.l ++ [e], q.h⟩) (A := A') (cap := cap') (bs := bs ++ [x]) (unhide Hinv (unhide HM)) (by rw [List.length_append, (unhide HR).lenl]; simp) ?_
      show Heap w0 _ (HP.blk b (qcs (.slice A' (q.l ++ [e]).length cap') q.h).toArray 69 :: HP.slw (.slice A' (q.l ++ [e]).length cap') 1 (q.l ++ [e]).length (ptrs (bs ++ [x])) :: HP.ents (bs ++ [x]) (q.l ++ [e]) :: L)
      rw [hlen, show ptrs (bs ++ [x]) = ptrs bs ++ [ptr x] by simp [ptrs]]
      exact (Heap.ents_snoc hC.f4.f4 (unhide HR).lenl).b3
  · obtain ⟨m, rfl⟩ : ∃ m, n = m + 1 := ⟨n - 1, by omega⟩
    have hs1 : ((m + 1 : Nat) : Int) - 1 = (m : Int) := by omega
    obtain ⟨g, o, y, ey, rfl, hey, hy, hgl, hg, hyl, hyb⟩ := (unhide HR).at_ (k := m) (by rw [unhide Hn]; omega)
    obtain ⟨y0, _⟩ := cells9 hyb
    unfold ptr at hg
    have hlt : lastTag q.l = some ey.tag := by
      unfold lastTag
      rw [List.getLast?_eq_getElem?, unhide Hn, show m + 1 - 1 = m by omega, hey]
      rfl
    clear hey hy hyb
    by_cases hle : e.tag ≤ ey.tag
    · have zt : decide (e.tag ≤ ey.tag) = true := decide_eq_true hle
      have HM : Hid (mb = false) := hide (by rw [← unhide Hmb]; unfold mayCome; rw [hlt]; simp only [decide_eq_false (show ¬ ey.tag < e.tag by omega), Bool.false_and])
      go_wp2
      go_quiet (fail)
      go_wp2
      go_ret
      exact ⟨by rw [unhide HM]; rfl, by rw [← unhide Hq2, unhide HM]; exact (unhide HQ).f2.tail.drewN _⟩
    · have zt : decide (e.tag ≤ ey.tag) = false := decide_eq_false hle
      cases hs : e.store with
      | true =>
        rw [hs] at d2
        by_cases h8 : st < 8
        · have z8 : decide ((8 : Int) ≤ (st : Int)) = false := decide_eq_false (by omega)
          have HM : Hid (mb = true) := hide (by rw [← unhide Hmb]; unfold mayCome; rw [hlt, hs, unhide Hst]; simp only [decide_eq_true (show ey.tag < e.tag by omega), Bool.true_and, if_true, decide_eq_true h8])
          go_wp2
          go_quiet (fail)
          have hJ := (unhide HB).drewN nq
          obtain ⟨c0, f0⟩ := cell_blk hJ.heap 0
          rw [qcs_0] at c0
          have hbl := lt_of_heap' hJ.heap
          clear q0
          go_wp2_with (at_builtin; refine wpList_append_sl (n := m + 1) (m := 1) rfl _ _ 64 rfl 74 i0 _ 1 8 Try.underlying64 hi hz0 hz1 hz2 rfl rfl rfl (hJ.f2.slw.alloc _) (Sl.single _ 74 (ptr x) (by simp)) (by simp; rfl) (by omega) (by omega) ?_; intro v' w' hsl hgr hblk hsp; obtain ⟨A', cap', rfl, _⟩ := hsl.parts; have hA := (hJ.f2.alloc _).appendw hsl hgr hblk; clear c0 f0 hbl hsl hgr hblk hsp; obtain ⟨c0, f0⟩ := cell_blk hA.f2.heap 0; rw [qcs_0] at c0; have hbl := lt_of_heap' hA.f2.heap)
          have hC := hA.f2.setl 0 (.slice A' (m + 1 + 1) cap')
          rw [qcs_set0] at hC
          clear hA c0 f0 hbl
          go_ret
          refine ⟨by rw [unhide HM]; rfl, ?_⟩
          rw [← unhide Hq2, unhide HM]
          have hlen : (q.l ++ [e]).length = m + 1 + 1 := by rw [List.length_append, unhide Hn]; rfl
          refine Heap.qc (q := ⟨q.l ++ [e], q.h⟩) (A := A') (cap := cap') (bs := bs ++ [x]) (unhide Hinv (unhide HM)) (by rw [List.length_append, (unhide HR).lenl]; simp) ?_
          show Heap w0 _ (HP.blk b (qcs (.slice A' (q.l ++ [e]).length cap') q.h).toArray 69 :: HP.slw (.slice A' (q.l ++ [e]).length cap') 1 (q.l ++ [e]).length (ptrs (bs ++ [x])) :: HP.ents (bs ++ [x]) (q.l ++ [e]) :: L)
          rw [hlen, show ptrs (bs ++ [x]) = ptrs bs ++ [ptr x] by simp [ptrs]]
          exact (Heap.ents_snoc hC.f4.f4 (unhide HR).lenl).b3
        · have z8 : decide ((8 : Int) ≤ (st : Int)) = true := decide_eq_true (by omega)
          have HM : Hid (mb = false) := hide (by rw [← unhide Hmb]; unfold mayCome; rw [hlt, hs, unhide Hst]; simp only [decide_eq_false h8, if_true, Bool.and_false])
          go_wp2
          go_quiet (fail)
          go_wp2
          go_ret
          exact ⟨by rw [unhide HM]; rfl, by rw [← unhide Hq2, unhide HM]; exact (unhide HQ).f2.tail.drewN _⟩
      | false =>
        rw [hs] at d2
        by_cases h8 : ld < 8
        · have z8 : decide ((8 : Int) ≤ (ld : Int)) = false := decide_eq_false (by omega)
          have HM : Hid (mb = true) := hide (by rw [← unhide Hmb]; unfold mayCome; rw [hlt, hs, unhide Hld]; simp only [decide_eq_true (show ey.tag < e.tag by omega), Bool.true_and, Bool.false_eq_true, if_false, decide_eq_true h8])
          go_wp2
          go_quiet (fail)
          have hJ := (unhide HB).drewN nq
          obtain ⟨c0, f0⟩ := cell_blk hJ.heap 0
          rw [qcs_0] at c0
          have hbl := lt_of_heap' hJ.heap
          clear q0
          go_wp2_with (at_builtin; refine wpList_append_sl (n := m + 1) (m := 1) rfl _ _ 64 rfl 74 i0 _ 1 8 Try.underlying64 hi hz0 hz1 hz2 rfl rfl rfl (hJ.f2.slw.alloc _) (Sl.single _ 74 (ptr x) (by simp)) (by simp; rfl) (by omega) (by omega) ?_; intro v' w' hsl hgr hblk hsp; obtain ⟨A', cap', rfl, _⟩ := hsl.parts; have hA := (hJ.f2.alloc _).appendw hsl hgr hblk; clear c0 f0 hbl hsl hgr hblk hsp; obtain ⟨c0, f0⟩ := cell_blk hA.f2.heap 0; rw [qcs_0] at c0; have hbl := lt_of_heap' hA.f2.heap)
          have hC := hA.f2.setl 0 (.slice A' (m + 1 + 1) cap')
          rw [qcs_set0] at hC
          clear hA c0 f0 hbl
          go_ret
          refine ⟨by rw [unhide HM]; rfl, ?_⟩
          rw [← unhide Hq2, unhide HM]
          have hlen : (q.l ++ [e]).length = m + 1 + 1 := by rw [List.length_append, unhide Hn]; rfl
          refine Heap.qc (q := ⟨q.l ++ [e], q.h⟩) (A := A') (cap := cap') (bs := bs ++ [x]) (unhide Hinv (unhide HM)) (by rw [List.length_append, (unhide HR).lenl]; simp) ?_
          show Heap w0 _ (HP.blk b (qcs (.slice A' (q.l ++ [e]).length cap') q.h).toArray 69 :: HP.slw (.slice A' (q.l ++ [e]).length cap') 1 (q.l ++ [e]).length (ptrs (bs ++ [x])) :: HP.ents (bs ++ [x]) (q.l ++ [e]) :: L)
          rw [hlen, show ptrs (bs ++ [x]) = ptrs bs ++ [ptr x] by simp [ptrs]]
          exact (Heap.ents_snoc hC.f4.f4 (unhide HR).lenl).b3
        · have z8 : decide ((8 : Int) ≤ (ld : Int)) = true := decide_eq_true (by omega)
          have HM : Hid (mb = false) := hide (by rw [← unhide Hmb]; unfold mayCome; rw [hlt, hs, unhide Hld]; simp only [decide_eq_false h8, Bool.false_eq_true, if_false, Bool.and_false])
          go_wp2
          go_quiet (fail)
          go_wp2
          go_ret
          exact ⟨by rw [unhide HM]; rfl, by rw [← unhide Hq2, unhide HM]; exact (unhide HQ).f2.tail.drewN _⟩
end
end Go.Proofs.Ytdmkgomcomcfhaa
