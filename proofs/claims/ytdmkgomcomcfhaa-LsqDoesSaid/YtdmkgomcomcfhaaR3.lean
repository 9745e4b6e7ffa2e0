/- Layer 23: the reference: New, come, Load, Store. -/
import Derived.Test.YtdmkgomcomcfhaaR2
namespace Go.Proofs.Ytdmkgomcomcfhaa
open Go.RowKit
theorem info84 : (Try.prog.info? 84).map (fun i => (i.zero, i.size, i.bytes)) = some (some (.agg #[.int .i64 0, .int .u64 0, .bool false, .bool false, .bool false, .bool false, .int .u64 0, .int .i64 0, .int .u64 0]), 9, 48) := by kernel_rfl
theorem Heap.rI {w0 w : World} {L : List HP} {b : Nat} {q : Qs} (h : Heap w0 w (HP.r b q :: L)) : QI q := by
  obtain ⟨_, hI, _⟩ := Heap.rr.1 h
  exact hI
section
variable {w0 w : World} {L : List HP} {b : Nat} {q : Qs}
theorem Heap.or0 {A : Option Addr} {cap gh oh ch gi oi ci : Nat} (h : Heap w0 w (OR b A cap gh oh ch gi oi ci q L)) : w.cell? ⟨b, 0, none⟩ = some (.slice A q.l.length cap) ∧ w.frozen? ⟨b, 0, none⟩ = false ∧ b < w.heap.size := by
  have := cell_blk (Heap.heap h) 0
  exact ⟨this.1, this.2, lt_of_heap' (Heap.heap h)⟩
theorem count_r (h : Heap w0 w (HP.r b q :: L)) : Calls Try.prog 29 #[ptr b] w fun r w' => r = .returned (.tuple #[.int .i64 (nLd q.l), .int .i64 (nSt q.l)]) ∧ Heap w0 w' (HP.r b q :: L) := by
  obtain ⟨A, cap, gh, oh, ch, gi, oi, ci, hR, _⟩ := h.rro
  exact (countR hR).mono fun r w' ⟨h1, h2⟩ => ⟨h1, h.grown h2⟩
set_option maxRecDepth 100000 in
set_option maxHeartbeats 4000000 in
theorem come_r {e : Ent} (h : Heap w0 w (HP.r b q :: L)) (he : e.ok) (hfr : e = .fresh e.tag e.pc e.store) :
    Calls Try.prog 34 #[ptr b, .int .i64 e.tag, .int .u64 e.pc, .bool e.store] w fun r w' => r = .returned (.bool (mayCome q.l e.tag e.store)) ∧ Heap w0 w' (HP.r b (comeQ q e) :: L) := by
  obtain ⟨i0, hi, hz0, hz1, hz2⟩ := info_parts info84
  obtain ⟨A, cap, gh, oh, ch, gi, oi, ci, hR, hO⟩ := h.rro
  have hcount := hide (countR hR)
  have hl1 := hR.inv.ld
  have hl2 := hR.inv.st
  have hcnt := cnt q.l
  have HR := hide hR
  have HH := hide h
  have HO := hide hO
  obtain ⟨n, hn⟩ : ∃ n, q.l.length = n := ⟨_, rfl⟩
  have Hn := hide hn
  obtain ⟨ld, hld⟩ : ∃ x, nLd q.l = x := ⟨_, rfl⟩
  obtain ⟨st, hst⟩ : ∃ x, nSt q.l = x := ⟨_, rfl⟩
  have Hld := hide hld
  have Hst := hide hst
  rw [hld] at hl1 hcnt hcount
  rw [hst] at hl2 hcnt hcount
  rw [hn] at hcnt
  obtain ⟨mb, hmb⟩ : ∃ x, mayCome q.l e.tag e.store = x := ⟨_, rfl⟩
  obtain ⟨q2, hq2⟩ : ∃ q2 : Qs, comeQ q e = q2 := ⟨_, rfl⟩
  have hinv := fun hh : mb = true => come_inv hR.inv he (hmb.trans hh)
  rw [hmb, hq2]
  have hq3 : q2 = if mb then ⟨q.l ++ [e], q.h⟩ else q := by rw [← hq2, ← hmb]; rfl
  have Hmb := hide hmb
  have Hq3 := hide hq3
  have Hinv := hide hinv
  have Hfr := hide hfr
  clear hR hO h hn hld hst hmb hq2 hq3 hinv hfr he
  unfold ptr
  go_enter Try.func34, Try.ntmps34
  go_wp2_with fail
  refine (unhide hcount).mono ?_
  rintro r w1 ⟨rfl, hg1⟩
  have hR := (unhide HR).gn hg1
  have HO := hide ((unhide HO).grown hg1)
  have HH := hide ((unhide HH).grown hg1)
  have HR := hide hR
  obtain ⟨q0, _, hbl⟩ := hR.c0
  rw [unhide Hn] at q0
  clear hcount hg1 hR
  obtain ⟨stb, hsb⟩ : ∃ x, e.store = x := ⟨_, rfl⟩
  have Hsb := hide hsb
  obtain ⟨full, hfull⟩ : ∃ f : Bool, ((((if stb then st else ld : Nat) : Int)) == 8) = f := ⟨_, rfl⟩
  have Hfull := hide hfull
  rw [hsb]
  clear hsb
  go_upto_if 19 with fail
  go_cut [11] (fun s w2 => s = .bool full ∧ w2 = w1)
  case first =>
    cases stb with
    | true =>
      simp only [if_true] at hfull
      go_wp2
      go_meet
      exact ⟨by first | rfl | rw [hfull], rfl⟩
    | false =>
      simp only [Bool.false_eq_true, if_false] at hfull
      go_wp2
      go_meet
      exact ⟨by first | rfl | rw [hfull], rfl⟩
  case rest =>
    obtain ⟨rfl, rfl⟩ := hcut
    clear hfull
    cases full with
    | true =>
      have HM : Hid (mb = false) := hide (by
        rw [← unhide Hmb]; unfold mayCome; rw [unhide Hsb, unhide Hst, unhide Hld]
        have hf := unhide Hfull
        cases stb with
        | true =>
          simp only [if_true, beq_iff_eq] at hf
          have : ¬ st < 8 := by omega
          simp [this]
        | false =>
          simp only [Bool.false_eq_true, if_false, beq_iff_eq] at hf
          have : ¬ ld < 8 := by omega
          simp [this])
      go_wp2
      go_quiet (fail)
      go_wp2
      go_ret
      exact ⟨by rw [unhide HM]; rfl, by rw [unhide Hq3, unhide HM]; exact (unhide HH).drewN _⟩
    | false =>
      have HF : Hid ((if stb then decide (st < 8) else decide (ld < 8)) = true) := hide (by
        have hf := unhide Hfull
        cases stb with
        | true =>
          simp only [if_true, beq_eq_false_iff_ne] at hf ⊢
          exact decide_eq_true (by omega)
        | false =>
          simp only [Bool.false_eq_true, if_false, beq_eq_false_iff_ne] at hf ⊢
          exact decide_eq_true (by omega))
      by_cases hn0 : n = 0
      · subst hn0
        have hlt : lastTag q.l = none := by
          have := List.eq_nil_of_length_eq_zero (unhide Hn)
          unfold lastTag; rw [this]; rfl
        have HM : Hid (mb = true) := hide (by rw [← unhide Hmb]; unfold mayCome; rw [hlt, unhide Hsb, unhide Hst, unhide Hld, unhide HF]; rfl)
        clear hlt
        go_wp2
        go_quiet (fail)
        have hJ := ((unhide HO).drewN nq)
        generalize wc.drewN nq = wd at hJ ⊢
        unfold OR at hJ
        rw [unhide Hn] at hJ
        have c0 : wd.cell? ⟨b, 0, none⟩ = some (.slice A 0 cap) := (cell_blk (Heap.heap hJ) 0).1
        have f0 := (cell_blk (Heap.heap hJ) 0).2
        have hbl := lt_of_heap' (Heap.heap hJ)
        have hE := hJ.emptyW (sz := 9) 84
        clear q0
        have HE := hide hE
        have HJ := hide hJ
        clear hE hJ
        go_wp2_with (at_builtin; refine wpList_append_sl (n := 0) (m := 0) rfl _ _ 70 rfl 84 i0 _ 9 48 Try.underlying70 hi hz0 hz1 hz2 rfl rfl rfl (unhide HE).slw (Heap.f3 (unhide HE)).slw (entsC_cell _) (by omega) (by omega) ?_; intro v' w2 hsl hgr hblk hsp; obtain ⟨A', cap', rfl, _⟩ := hsl.parts; have hA := (unhide HE).appendw hsl hgr hblk; clear c0 f0 hsl hgr hblk hsp HJ HE; rw [List.nil_append, Nat.zero_add] at hA; try rw [Nat.zero_add]; have c0 : w2.cell? ⟨b, 0, none⟩ = some (.slice A 0 cap) := (cell_blk (Heap.heap hA.tail) 0).1; have f0 := (cell_blk (Heap.heap hA.tail) 0).2; have hbl := lt_of_heap' (Heap.heap hA.tail); have HA := hide hA; clear hA; refine unhide ?_)
        refine hide ?_
        go_wp2_with (at_builtin; refine wpList_append_sl (n := 0) (m := 1) rfl _ _ 70 rfl 84 i0 _ 9 48 Try.underlying70 hi hz0 hz1 hz2 rfl rfl rfl ((unhide HA).slw.alloc _) (Sl.row _ 84 [.int .i64 e.tag, .int .u64 e.pc, .bool stb, .bool false, .bool false, .bool false, .int .u64 0, .int .i64 0, .int .u64 0] (by simp)) (by intro y hy; simp at hy; rcases hy with rfl | rfl | rfl | rfl | rfl | rfl | rfl | rfl | rfl <;> rfl) (by omega) (by omega) ?_; intro v' w3 hsl hgr hblk hsp; obtain ⟨A2, cap2, rfl, _⟩ := hsl.parts; have hA2 := ((unhide HA).alloc _).appendw hsl hgr hblk; clear c0 f0 hbl hsl hgr hblk hsp HA; have c0 : w3.cell? ⟨b, 0, none⟩ = some (.slice A 0 cap) := (cell_blk (Heap.heap hA2.tail) 0).1; have f0 := (cell_blk (Heap.heap hA2.tail) 0).2; have hbl := lt_of_heap' (Heap.heap hA2.tail); have HA2 := hide hA2; clear hA2; refine unhide ?_)
        refine hide ?_
        go_wp2
        go_ret
        refine ⟨by rw [unhide HM]; rfl, ?_⟩
        rw [unhide Hq3, unhide HM]
        have hC : Heap w0 _ (HP.blk b #[.slice A2 (0 + 1) cap2, .slice (some ⟨gh, oh, none⟩) 16 ch, .slice (some ⟨gi, oi, none⟩) 16 ci] 72 :: _) := (unhide HA2).f2.set 0 (.slice A2 (0 + 1) cap2)
        have hlen : (q.l ++ [e]).length = 0 + 1 := by rw [List.length_append, unhide Hn]; rfl
        refine Heap.rr.2 ⟨(.slice A2 (0 + 1) cap2, .slice (some ⟨gh, oh, none⟩) 16 ch, .slice (some ⟨gi, oi, none⟩) 16 ci), unhide Hinv (unhide HM), ?_⟩
        show Heap w0 _ (HP.blk b #[.slice A2 (0 + 1) cap2, .slice (some ⟨gh, oh, none⟩) 16 ch, .slice (some ⟨gi, oi, none⟩) 16 ci] 72 :: HP.slw (.slice A2 (0 + 1) cap2) 9 (q.l ++ [e]).length (entsC (q.l ++ [e])) :: HP.slw (.slice (some ⟨gh, oh, none⟩) 16 ch) 1 16 (hU q.h) :: HP.slw (.slice (some ⟨gi, oi, none⟩) 16 ci) 1 16 (hB q.h) :: L)
        have hcs : e.cs = [.int .i64 e.tag, .int .u64 e.pc, .bool stb, .bool false, .bool false, .bool false, .int .u64 0, .int .i64 0, .int .u64 0] := by rw [unhide Hfr, unhide Hsb]; rfl
        rw [hlen, entsC_app, entsC_one, hcs]
        exact hC.f3.tail

      · obtain ⟨m, rfl⟩ : ∃ m, n = m + 1 := ⟨n - 1, by omega⟩
        have hs1 : ((m + 1 : Nat) : Int) - 1 = (m : Int) := by omega
        obtain ⟨g, o, ey, rfl, hey, hgl, y0, y1, y2, y3, y4, y5, y6, y7, y8⟩ := (unhide HR).at_ (k := m) (by rw [unhide Hn]; omega)
        have hlt : lastTag q.l = some ey.tag := by
          unfold lastTag
          rw [List.getLast?_eq_getElem?, unhide Hn, show m + 1 - 1 = m by omega, hey]
          rfl
        have Hlt := hide hlt
        clear hey hlt y1 y2 y3 y4 y5 y6 y7 y8
        by_cases hle : e.tag ≤ ey.tag
        · have zt : decide (e.tag ≤ ey.tag) = true := decide_eq_true hle
          have HM : Hid (mb = false) := hide (by rw [← unhide Hmb]; unfold mayCome; rw [unhide Hlt]; simp only [decide_eq_false (show ¬ ey.tag < e.tag by omega), Bool.false_and])
          go_wp2
          go_quiet (fail)
          go_wp2
          go_ret
          exact ⟨by rw [unhide HM]; rfl, by rw [unhide Hq3, unhide HM]; exact (unhide HH).drewN _⟩
        · have zt : decide (e.tag ≤ ey.tag) = false := decide_eq_false hle
          have HM : Hid (mb = true) := hide (by rw [← unhide Hmb]; unfold mayCome; rw [unhide Hlt, unhide Hsb, unhide Hst, unhide Hld, unhide HF]; simp only [decide_eq_true (show ey.tag < e.tag by omega), Bool.true_and])
          go_wp2
          go_quiet (fail)
          have hJ := ((unhide HO).drewN nq)
          generalize wc.drewN nq = wd at hJ ⊢
          unfold OR at hJ
          rw [unhide Hn] at hJ
          have c0 : wd.cell? ⟨b, 0, none⟩ = some (.slice (some ⟨g, o, none⟩) (m + 1) cap) := (cell_blk (Heap.heap hJ) 0).1
          have f0 := (cell_blk (Heap.heap hJ) 0).2
          have hbl := lt_of_heap' (Heap.heap hJ)
          have hE := hJ.emptyW (sz := 9) 84
          clear q0
          have HE := hide hE
          have HJ := hide hJ
          clear hE hJ
          go_wp2_with (at_builtin; refine wpList_append_sl (n := 0) (m := (m + 1)) rfl _ _ 70 rfl 84 i0 _ 9 48 Try.underlying70 hi hz0 hz1 hz2 rfl rfl rfl (unhide HE).slw (Heap.f3 (unhide HE)).slw (entsC_cell _) (by omega) (by omega) ?_; intro v' w2 hsl hgr hblk hsp; obtain ⟨A', cap', rfl, _⟩ := hsl.parts; have hA := (unhide HE).appendw hsl hgr hblk; clear c0 f0 hsl hgr hblk hsp HJ HE; rw [List.nil_append, Nat.zero_add] at hA; try rw [Nat.zero_add]; have c0 : w2.cell? ⟨b, 0, none⟩ = some (.slice (some ⟨g, o, none⟩) (m + 1) cap) := (cell_blk (Heap.heap hA.tail) 0).1; have f0 := (cell_blk (Heap.heap hA.tail) 0).2; have hbl := lt_of_heap' (Heap.heap hA.tail); have HA := hide hA; clear hA; refine unhide ?_)
          refine hide ?_
          go_wp2_with (at_builtin; refine wpList_append_sl (n := (m + 1)) (m := 1) rfl _ _ 70 rfl 84 i0 _ 9 48 Try.underlying70 hi hz0 hz1 hz2 rfl rfl rfl ((unhide HA).slw.alloc _) (Sl.row _ 84 [.int .i64 e.tag, .int .u64 e.pc, .bool stb, .bool false, .bool false, .bool false, .int .u64 0, .int .i64 0, .int .u64 0] (by simp)) (by intro y hy; simp at hy; rcases hy with rfl | rfl | rfl | rfl | rfl | rfl | rfl | rfl | rfl <;> rfl) (by omega) (by omega) ?_; intro v' w3 hsl hgr hblk hsp; obtain ⟨A2, cap2, rfl, _⟩ := hsl.parts; have hA2 := ((unhide HA).alloc _).appendw hsl hgr hblk; clear c0 f0 hbl hsl hgr hblk hsp HA; have c0 : w3.cell? ⟨b, 0, none⟩ = some (.slice (some ⟨g, o, none⟩) (m + 1) cap) := (cell_blk (Heap.heap hA2.tail) 0).1; have f0 := (cell_blk (Heap.heap hA2.tail) 0).2; have hbl := lt_of_heap' (Heap.heap hA2.tail); have HA2 := hide hA2; clear hA2; refine unhide ?_)
          refine hide ?_
          go_wp2
          go_ret
          refine ⟨by rw [unhide HM]; rfl, ?_⟩
          rw [unhide Hq3, unhide HM]
          have hC : Heap w0 _ (HP.blk b #[.slice A2 ((m + 1) + 1) cap2, .slice (some ⟨gh, oh, none⟩) 16 ch, .slice (some ⟨gi, oi, none⟩) 16 ci] 72 :: _) := (unhide HA2).f2.set 0 (.slice A2 ((m + 1) + 1) cap2)
          have hlen : (q.l ++ [e]).length = (m + 1) + 1 := by rw [List.length_append, unhide Hn]; rfl
          refine Heap.rr.2 ⟨(.slice A2 ((m + 1) + 1) cap2, .slice (some ⟨gh, oh, none⟩) 16 ch, .slice (some ⟨gi, oi, none⟩) 16 ci), unhide Hinv (unhide HM), ?_⟩
          show Heap w0 _ (HP.blk b #[.slice A2 ((m + 1) + 1) cap2, .slice (some ⟨gh, oh, none⟩) 16 ch, .slice (some ⟨gi, oi, none⟩) 16 ci] 72 :: HP.slw (.slice A2 ((m + 1) + 1) cap2) 9 (q.l ++ [e]).length (entsC (q.l ++ [e])) :: HP.slw (.slice (some ⟨gh, oh, none⟩) 16 ch) 1 16 (hU q.h) :: HP.slw (.slice (some ⟨gi, oi, none⟩) 16 ci) 1 16 (hB q.h) :: L)
          have hcs : e.cs = [.int .i64 e.tag, .int .u64 e.pc, .bool stb, .bool false, .bool false, .bool false, .int .u64 0, .int .i64 0, .int .u64 0] := by rw [unhide Hfr, unhide Hsb]; rfl
          rw [hlen, entsC_app, entsC_one, hcs]
          exact hC.f3.tail


set_option maxRecDepth 100000 in
theorem load_r (h : Heap w0 w (HP.r b q :: L)) (tag pc : Int) (t0 : -9223372036854775808 ≤ tag ∧ tag < 9223372036854775808) (p0 : 0 ≤ pc ∧ pc < 18446744073709551616) :
    Calls Try.prog 12 #[ptr b, .int .i64 tag, .int .u64 pc] w fun r w' => r = .returned (.bool (mayCome q.l tag false)) ∧ Heap w0 w' (HP.r b (comeQ q (.fresh tag pc false)) :: L) := by
  have hcall := hide (come_r (e := .fresh tag pc false) h (Ent.fresh_ok t0 p0 false) rfl)
  unfold ptr
  go_enter Try.func12, Try.ntmps12
  go_wp2_with fail
  refine (unhide hcall).mono ?_
  rintro r w2 ⟨rfl, h2⟩
  go_wp2
  go_ret
  exact ⟨rfl, h2⟩
set_option maxRecDepth 100000 in
theorem store_r (h : Heap w0 w (HP.r b q :: L)) (tag pc : Int) (t0 : -9223372036854775808 ≤ tag ∧ tag < 9223372036854775808) (p0 : 0 ≤ pc ∧ pc < 18446744073709551616) :
    Calls Try.prog 14 #[ptr b, .int .i64 tag, .int .u64 pc] w fun r w' => r = .returned (.bool (mayCome q.l tag true)) ∧ Heap w0 w' (HP.r b (comeQ q (.fresh tag pc true)) :: L) := by
  have hcall := hide (come_r (e := .fresh tag pc true) h (Ent.fresh_ok t0 p0 true) rfl)
  unfold ptr
  go_enter Try.func14, Try.ntmps14
  go_wp2_with fail
  refine (unhide hcall).mono ?_
  rintro r w2 ⟨rfl, h2⟩
  go_wp2
  go_ret
  exact ⟨rfl, h2⟩
set_option maxRecDepth 100000 in
theorem Heap.newR {w0 w : World} {L : List HP} (h : Heap w0 w L) (xs : List Value) (T : TypeId) (n sz : Nat) (hl : xs.length = n * sz) : Heap w0 (w.alloc (.cells xs.toArray T)) (HP.slw (.slice (some ⟨w.heap.size, 0, none⟩) n n) sz n xs :: L) :=
  h.make (w' := w.alloc (.cells xs.toArray T)) (As := [HP.slw (.slice (some ⟨w.heap.size, 0, none⟩) n n) sz n xs]) (ds := [_]) ⟨rfl, rfl, rfl, by simp, fun k hk _ => Below.heap_alloc w _ k hk⟩
    (.cons ⟨sl_blk (heap_new' w _) hl, rfl⟩ .nil) (List.pairwise_singleton _ _) (fun c hc x hx => by
    simp only [List.mem_cons, List.mem_nil_iff, or_false] at hc
    subst hc
    rcases hx with hx | hx <;> (injection hx with hx; exact hx ▸ Nat.le_refl _))
theorem mk51r (w : World) : (Instr.makeSlice 51 (.int .i64 16) (.int .i64 16)).run Try.prog w = .ok (.slice (some ⟨w.heap.size, 0, none⟩) 16 16) (w.alloc (.cells (hU H0).toArray 28)) := by kernel_rfl
theorem mk58r (w : World) : (Instr.makeSlice 58 (.int .i64 16) (.int .i64 16)).run Try.prog w = .ok (.slice (some ⟨w.heap.size, 0, none⟩) 16 16) (w.alloc (.cells (hB H0).toArray 4)) := by kernel_rfl
set_option maxRecDepth 100000 in
theorem new_r (h : Heap w0 w L) : Calls Try.prog 10 #[] w fun r w' => ∃ b, r = .returned (ptr b) ∧ Heap w0 w' (HP.r b Q0 :: L) := by
  go_enter Try.func10, Try.ntmps10
  have m1 := mk51r
  have m2 := mk58r
  have H := hide h
  generalize hUH : (hU H0).toArray = uu at m1
  generalize hBH : (hB H0).toArray = bb at m2
  have HU := hide hUH
  have HB := hide hBH
  clear hUH hBH h
  go_wp2_with fail
  go_region
  · go_wp2
    go_ret
    refine ⟨w.heap.size + 1 + 1, rfl, ?_⟩
    rw [← unhide HU, ← unhide HB]
    have h1 := (unhide H).newR (hU H0) 28 16 1 (by rw [hU_len])
    have h2 := h1.newR (hB H0) 4 16 1 (by rw [hB_len])
    rw [show (w.alloc (.cells (hU H0).toArray 28)).heap.size = w.heap.size + 1 by simp] at h2
    have h3 := (h2.new #[.slice none 0 0, .slice (some ⟨w.heap.size, 0, none⟩) 16 16, .slice (some ⟨w.heap.size + 1, 0, none⟩) 16 16] 72).noneS (sz := 9)
    rw [show ((w.alloc (.cells (hU H0).toArray 28)).alloc (.cells (hB H0).toArray 4)).heap.size = w.heap.size + 1 + 1 by simp] at h3
    exact Heap.rr.2 ⟨(.slice none 0 0, .slice (some ⟨w.heap.size, 0, none⟩) 16 16, .slice (some ⟨w.heap.size + 1, 0, none⟩) 16 16), Q0_inv, Heap.drew (h3.f2.f4.f3.f3)⟩
  · go_wp2
    go_ret
    refine ⟨w.heap.size + 1 + 1, rfl, ?_⟩
    rw [← unhide HU, ← unhide HB]
    have h1 := (unhide H).newR (hB H0) 4 16 1 (by rw [hB_len])
    have h2 := h1.newR (hU H0) 28 16 1 (by rw [hU_len])
    rw [show (w.alloc (.cells (hB H0).toArray 4)).heap.size = w.heap.size + 1 by simp] at h2
    have h3 := (h2.new #[.slice none 0 0, .slice (some ⟨w.heap.size + 1, 0, none⟩) 16 16, .slice (some ⟨w.heap.size, 0, none⟩) 16 16] 72).noneS (sz := 9)
    rw [show ((w.alloc (.cells (hB H0).toArray 4)).alloc (.cells (hU H0).toArray 28)).heap.size = w.heap.size + 1 + 1 by simp] at h3
    exact Heap.rr.2 ⟨(.slice none 0 0, .slice (some ⟨w.heap.size + 1, 0, none⟩) 16 16, .slice (some ⟨w.heap.size, 0, none⟩) 16 16), Q0_inv, Heap.drew h3.f2⟩
end
end Go.Proofs.Ytdmkgomcomcfhaa
