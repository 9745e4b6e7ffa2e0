/- Layer 23: the reference: Data, Pop, Squash. -/
import Derived.Test.YtdmkgomcomcfhaaR3
namespace Go.Proofs.Ytdmkgomcomcfhaa
open Go.RowKit
section
variable {w0 w : World} {L : List HP} {b : Nat} {q : Qs}
set_option maxRecDepth 100000 in
set_option maxHeartbeats 2000000 in
theorem data_r (h : Heap w0 w (HP.r b q :: L)) (tag v : Int) (v0 : 0 ≤ v ∧ v < 18446744073709551616) :
    Calls Try.prog 19 #[ptr b, .int .i64 tag, .int .u64 v] w fun r w' => r = .returned (.bool (dataN q.l tag).isSome) ∧ Heap w0 w' (HP.r b (dataQ q tag v) :: L) := by
  obtain ⟨A, cap, gh, oh, ch, gi, oi, ci, hR, hh⟩ := h.rro
  obtain ⟨q0, _, hbl⟩ := hR.c0
  have hcall := hide (findR hR tag)
  have hlen16 := hR.inv.len
  have HR := hide hR
  have HQ := hide h
  have HB := hide hh
  obtain ⟨R, hR2⟩ : ∃ R, (dataN q.l tag).isSome = R := ⟨_, rfl⟩
  obtain ⟨q2, hq2⟩ : ∃ q2, dataQ q tag v = q2 := ⟨_, rfl⟩
  rw [hR2, hq2]
  have HR2 := hide hR2
  have Hq2 := hide hq2
  clear hR h hh hR2 hq2
  unfold ptr
  go_enter Try.func19, Try.ntmps19
  go_wp2_with fail
  refine (unhide hcall).mono ?_
  rintro r w1 ⟨rfl, hw1⟩
  replace hw1 := hw1.symm
  subst hw1
  clear hcall
  cases hf : findN q.l tag with
  | none =>
    have hd : dataN q.l tag = none := by unfold dataN; rw [hf]; rfl
    have hfin := hide (And.intro (show R = false by rw [← unhide HR2, hd]; rfl) (show q2 = q by rw [← unhide Hq2]; unfold dataQ; rw [hd]))
    clear hf hd
    unfold optI
    go_wp2
    go_ret
    exact ⟨by rw [(unhide hfin).1]; rfl, by rw [(unhide hfin).2]; exact unhide HQ⟩
  | some n =>
    obtain ⟨e, he, _⟩ := findN_get hf
    have hd : dataN q.l tag = if e.store && !e.data then some n else none := by unfold dataN; rw [hf]; simp only [Option.bind_some, he]
    have hnl := (List.getElem?_eq_some_iff.1 he).1
    obtain ⟨g, o, e', rfl, he', hgl, d0, d1, d2, d3, d4, d5, d6, d7, d8⟩ := (unhide HR).at_ hnl
    rw [he] at he'
    injection he' with he'
    subst he'
    have He := hide he
    have Hd := hide hd
    have f4 := hide (ent_frozen (unhide HR).sl hnl (j := 4) (by omega))
    clear hf hd he d0 d1 d3 d5 d6 d7
    obtain ⟨len, hlen⟩ : ∃ len, q.l.length = len := ⟨_, rfl⟩
    have hB := unhide HB
    unfold OR at hB
    rw [hlen] at q0 hnl hlen16 hB
    have HB2 := hide hB
    have Hlen := hide hlen
    clear hB hlen HB
    unfold optI
    cases hs : e.store with
    | false =>
      rw [hs] at d2
      have hfin := hide (And.intro (show R = false by rw [← unhide HR2, unhide Hd, hs]; rfl) (show q2 = q by rw [← unhide Hq2]; unfold dataQ; rw [unhide Hd, hs]; rfl))
      go_wp2
      go_ret
      exact ⟨by rw [(unhide hfin).1]; rfl, by rw [(unhide hfin).2]; exact unhide HQ⟩
    | true =>
      rw [hs] at d2
      cases hdt : e.data with
      | true =>
        rw [hdt] at d4
        have hfin := hide (And.intro (show R = false by rw [← unhide HR2, unhide Hd, hs, hdt]; rfl) (show q2 = q by rw [← unhide Hq2]; unfold dataQ; rw [unhide Hd, hs, hdt]; rfl))
        go_wp2
        go_ret
        exact ⟨by rw [(unhide hfin).1]; rfl, by rw [(unhide hfin).2]; exact unhide HQ⟩
      | false =>
        rw [hdt] at d4
        have hfin := hide (And.intro (show R = true by rw [← unhide HR2, unhide Hd, hs, hdt]; rfl) (show q2 = ⟨q.l.set n { e with data := true, v := v }, q.h⟩ by rw [← unhide Hq2]; unfold dataQ; rw [unhide Hd, show (e.store && !e.data) = true by rw [hs, hdt]; rfl]; simp only [if_true]; rw [modify_set _ (unhide He)]))
        have Hs := hide hs
        have ff4 := unhide f4
        clear hs hdt
        go_upto_region 5 with fail
        have hW := (unhide HB2).f2.write (j := n * 9 + 4) (by omega) (.bool true)
        rw [entsC_set (e := e) (e' := { e with data := true }) (j := 4) (by omega) rfl (unhide He), ← Nat.add_assoc] at hW
        have hgt : (q.l.set n { e with data := true })[n]? = some { e with data := true } := by
          rw [List.getElem?_set, if_pos rfl, if_pos (by rw [unhide Hlen]; exact hnl)]
        generalize World.setCell _ ⟨g, o + n * 9 + 4, none⟩ (.bool true) = w2 at hW ⊢
        clear q0 d2 d4 ff4 hgl hbl d8
        have c0 : w2.cell? ⟨b, 0, none⟩ = some (.slice (some ⟨g, o, none⟩) len cap) := (cell_blk (Heap.heap hW.f2) 0).1
        have hbl := lt_of_heap' (Heap.heap hW.f2)
        obtain ⟨⟨_, _, _, _, _, _, _, _, d8⟩, hgl⟩ := ent_cells hW.slw hgt hnl
        have f8 := ent_frozen hW.slw hnl (j := 8) (by omega)
        have HW := hide hW
        have Hgt := hide hgt
        clear hW hgt
        go_wp2
        go_ret
        refine ⟨by rw [(unhide hfin).1]; rfl, ?_⟩
        rw [(unhide hfin).2]
        have hW2 := (unhide HW).write (j := n * 9 + 8) (by omega) (.int .u64 v)
        rw [entsC_set (e := { e with data := true }) (e' := { e with data := true, v := v }) (j := 8) (by omega) rfl (unhide Hgt), ← Nat.add_assoc, List.set_set] at hW2
        have hl : (q.l.set n ({ e with data := true, v := v } : Ent)).length = q.l.length := List.length_set
        refine Heap.rr.2 ⟨(.slice (some ⟨g, o, none⟩) len cap, .slice (some ⟨gh, oh, none⟩) 16 ch, .slice (some ⟨gi, oi, none⟩) 16 ci), (unhide HR).inv.set (unhide He) rfl rfl (((unhide HR).inv.ok e (List.mem_of_getElem? (unhide He))).with_data (unhide Hs) v0), ?_⟩
        show Heap w0 _ (HP.blk b #[.slice (some ⟨g, o, none⟩) len cap, .slice (some ⟨gh, oh, none⟩) 16 ch, .slice (some ⟨gi, oi, none⟩) 16 ci] 72 :: HP.slw (.slice (some ⟨g, o, none⟩) len cap) 9 (q.l.set n _).length (entsC (q.l.set n _)) :: HP.slw (.slice (some ⟨gh, oh, none⟩) 16 ch) 1 16 (hU q.h) :: HP.slw (.slice (some ⟨gi, oi, none⟩) 16 ci) 1 16 (hB q.h) :: L)
        rw [hl, unhide Hlen]
        exact hW2.f2
theorem filter_takeWhile {t : Int} : ∀ {l : List Ent}, (l.Pairwise fun a b => a.tag < b.tag) → l.filter (fun e => decide (e.tag < t)) = l.takeWhile (fun e => decide (e.tag < t)) := by
  intro l
  induction l with
  | nil => intro _; rfl
  | cons a l ih =>
    intro h
    obtain ⟨h1, h2⟩ := List.pairwise_cons.1 h
    by_cases ha : a.tag < t
    · rw [List.filter_cons_of_pos (by simpa using ha), List.takeWhile_cons_of_pos (by simpa using ha), ih h2]
    · rw [List.takeWhile_cons_of_neg (by simpa using ha), List.filter_eq_nil_iff]
      intro x hx
      rcases List.mem_cons.1 hx with rfl | hx
      · simpa using ha
      · have := h1 x hx
        simp
        omega
set_option maxRecDepth 100000 in
set_option maxHeartbeats 2000000 in
theorem squash_r (h : Heap w0 w (HP.r b q :: L)) (t : Int) :
    Calls Try.prog 27 #[ptr b, .int .i64 t] w fun r w' => r = .returned (.tuple #[]) ∧ Heap w0 w' (HP.r b (squashQ q t) :: L) := by
  obtain ⟨i0, hi, hz0, hz1, hz2⟩ := info_parts info84
  obtain ⟨A, cap, gh, oh, ch, gi, oi, ci, hR, hh⟩ := h.rro
  obtain ⟨q0, _, hbl⟩ := hR.c0
  have hlen16 := hR.inv.len
  have Hinv := hide (hR.inv.sub (l := (squashQ q t).l) (List.takeWhile_sublist _))
  have HFT := hide (filter_takeWhile (t := t) hR.inv.up)
  obtain ⟨n, hn⟩ : ∃ n, q.l.length = n := ⟨_, rfl⟩
  unfold OR at hh
  rw [hn] at q0 hlen16 hh
  have Hn := hide hn
  have H0_ := hide (hh.emptyW (sz := 9) 84)
  clear h hh hR hn
  unfold ptr
  go_enter Try.func27, Try.ntmps27
  go_wp2
  go_loopw [4, 5] (fun s i wr => ∃ (k : Nat) (A4 : Option Addr) (cap4 : Nat), i = .int .i64 k ∧ k ≤ n ∧ s = .slice A4 ((q.l.take k).filter fun e => decide (e.tag < t)).length cap4 ∧ Heap w0 wr (HP.slw s 9 ((q.l.take k).filter fun e => decide (e.tag < t)).length (entsC ((q.l.take k).filter fun e => decide (e.tag < t))) :: HP.blk b #[.slice A n cap, .slice (some ⟨gh, oh, none⟩) 16 ch, .slice (some ⟨gi, oi, none⟩) 16 ci] 72 :: HP.slw (.slice A n cap) 9 n (entsC q.l) :: HP.slw (.slice (some ⟨gh, oh, none⟩) 16 ch) 1 16 (hU q.h) :: HP.slw (.slice (some ⟨gi, oi, none⟩) 16 ci) 1 16 (hB q.h) :: L)) (fun _ i _ => n - (intOf i).toNat)
  case atStart => exact ⟨0, _, _, rfl, Nat.zero_le _, rfl, unhide H0_⟩
  case round =>
    obtain ⟨k, A4, cap4, rfl, hk, rfl, hJ⟩ := hrel
    clear H0_ q0 hbl
    have c0 : wr.cell? ⟨b, 0, none⟩ = some (.slice A n cap) := (cell_blk (Heap.heap hJ.f2) 0).1
    have f0 := (cell_blk (Heap.heap hJ.f2) 0).2
    have hbl := lt_of_heap' (Heap.heap hJ.f2)
    obtain ⟨m, hm⟩ : ∃ m, ((q.l.take k).filter fun e => decide (e.tag < t)).length = m := ⟨_, rfl⟩
    have hm16 : m ≤ 16 := by
      have h1 : m ≤ (q.l.take k).length := by rw [← hm]; exact List.length_filter_le _ _
      rw [List.length_take] at h1
      omega
    rw [hm] at hJ ⊢
    have Hm := hide hm
    clear hm
    by_cases hlt : k < n
    · obtain ⟨e, he⟩ : ∃ e, q.l[k]? = some e := ⟨_, List.getElem?_eq_getElem (by rw [unhide Hn]; exact hlt)⟩
      obtain ⟨g, o, cap', hv, _⟩ := hJ.f3.slw.addr (by omega)
      injection hv with hv _ hv2
      subst hv hv2
      obtain ⟨⟨d0, d1, d2, d3, d4, d5, d6, d7, d8⟩, hgl⟩ := ent_cells hJ.f3.slw he hlt
      have HJ := hide hJ
      have hup : (q.l.take (k + 1)).filter (fun e => decide (e.tag < t)) = ((q.l.take k).filter fun e => decide (e.tag < t)) ++ if decide (e.tag < t) then [e] else [] := by
        rw [List.take_add_one, he, List.filter_append]
        by_cases ht : e.tag < t <;> simp [ht]
      have Hup := hide hup
      clear hup he hJ
      by_cases ht : e.tag < t
      · have zt : decide (e.tag < t) = true := decide_eq_true ht
        have Hzt := hide zt
        have hone : ∀ y ∈ e.cs, y.oneCell' = true := by intro y hy; exact entsC_cell [e] y (by rw [entsC_one]; exact hy)
        have Hone := hide hone
        clear hone
        go_wp2_with (at_builtin; refine wpList_append_sl (n := m) (m := 1) rfl _ _ 70 rfl 84 i0 _ 9 48 Try.underlying70 hi hz0 hz1 hz2 rfl rfl rfl ((unhide HJ).slw.alloc _) (Sl.row _ 84 e.cs (by simp)) (unhide Hone) (by omega) (by omega) ?_; intro v' w2 hsl hgr hblk hsp; obtain ⟨A', cap', rfl, _⟩ := hsl.parts; have hA := ((unhide HJ).alloc _).appendw hsl hgr hblk; clear hsl hgr hblk hsp; have HA := hide hA; clear hA)
        have hl2 : ((q.l.take (k + 1)).filter fun e => decide (e.tag < t)).length = m + 1 := by rw [unhide Hup, unhide Hzt, List.length_append, unhide Hm]; rfl
        refine ⟨⟨k + 1, A', cap', by go_num, by omega, by rw [hl2], ?_⟩, by simp [intOf]; omega⟩
        rw [hl2, unhide Hup, unhide Hzt, entsC_app, if_pos rfl, entsC_one]
        exact unhide HA
      · have zt : decide (e.tag < t) = false := decide_eq_false ht
        have Hzt := hide zt
        go_wp2
        have hl2 : ((q.l.take (k + 1)).filter fun e => decide (e.tag < t)) = ((q.l.take k).filter fun e => decide (e.tag < t)) := by rw [unhide Hup, unhide Hzt]; simp
        refine ⟨⟨k + 1, A4, cap4, by go_num, by omega, by rw [hl2, unhide Hm], ?_⟩, by simp [intOf]; omega⟩
        rw [hl2, unhide Hm]
        exact unhide HJ
    · obtain rfl : k = n := by omega
      have HJ := hide hJ
      clear hJ
      go_wp2
      refine bodyPost_end (v := .tuple #[]) (by simp [results, Try.results27, go_sem]) rfl ⟨rfl, ?_⟩
      have hl2 : ((q.l.take k).filter fun e => decide (e.tag < t)) = (squashQ q t).l := by rw [← unhide Hn, List.take_length, unhide HFT]; rfl
      have hC : Heap w0 _ (HP.blk b #[.slice A4 m cap4, .slice (some ⟨gh, oh, none⟩) 16 ch, .slice (some ⟨gi, oi, none⟩) 16 ci] 72 :: _) := (unhide HJ).f2.set 0 (.slice A4 m cap4)
      refine Heap.rr.2 ⟨(.slice A4 m cap4, .slice (some ⟨gh, oh, none⟩) 16 ch, .slice (some ⟨gi, oi, none⟩) 16 ci), unhide Hinv, ?_⟩
      have hm2 := unhide Hm
      rw [hl2] at hm2 hC
      show Heap w0 _ (HP.blk b #[.slice A4 m cap4, .slice (some ⟨gh, oh, none⟩) 16 ch, .slice (some ⟨gi, oi, none⟩) 16 ci] 72 :: HP.slw (.slice A4 m cap4) 9 (squashQ q t).l.length (entsC (squashQ q t).l) :: HP.slw (.slice (some ⟨gh, oh, none⟩) 16 ch) 1 16 (hU q.h) :: HP.slw (.slice (some ⟨gi, oi, none⟩) 16 ci) 1 16 (hB q.h) :: L)
      rw [hm2]
      exact hC.f3.tail
set_option maxRecDepth 100000 in
set_option maxHeartbeats 2000000 in
theorem pop_r (h : Heap w0 w (HP.r b q :: L)) :
    Calls Try.prog 25 #[ptr b] w fun r w' => r = .returned (.tuple #[.int .i64 (popQ q).1.1, .bool (popQ q).1.2]) ∧ Heap w0 w' (HP.r b (popQ q).2 :: L) := by
  obtain ⟨i0, hi, hz0, hz1, hz2⟩ := info_parts info84
  obtain ⟨A, cap, gh, oh, ch, gi, oi, ci, hR, hh⟩ := h.rro
  obtain ⟨q0, _, hbl⟩ := hR.c0
  have hlen16 := hR.inv.len
  have hcapl := hR.capl
  have HQ := hide h
  obtain ⟨R, hR2⟩ : ∃ R, popQ q = R := ⟨_, rfl⟩
  rw [hR2]
  have HR2 := hide hR2
  unfold ptr
  cases hl : q.l with
  | nil =>
    rw [hl] at q0
    have hfin := hide (show R = ((0, false), q) by rw [← hR2]; unfold popQ; rw [hl])
    clear hR h hh hR2
    go_enter Try.func25, Try.ntmps25
    go_wp2
    go_ret2
    exact ⟨by rw [unhide hfin]; rfl, by rw [unhide hfin]; exact unhide HQ⟩
  | cons e l =>
    obtain ⟨g, o, e', rfl, he', hgl, hc9⟩ := hR.at_ (k := 0) (by rw [hl]; simp)
    rw [hl] at he'
    injection he' with he'
    subst he'
    rw [Nat.zero_mul, Nat.add_zero] at hc9
    obtain ⟨d0, d1, d2, d3, d4, d5, d6, d7, d8⟩ := hc9
    obtain ⟨m, hm⟩ : ∃ m, l.length = m := ⟨_, rfl⟩
    have hlm : q.l.length = m + 1 := by rw [hl, List.length_cons, hm]
    have Hm := hide hm
    unfold OR at hh
    rw [hlm] at hh q0 hlen16 hcapl
    have hpop : popQ q = if e.ready then ((e.tag, true), ⟨l, q.h⟩) else ((0, false), q) := by unfold popQ; rw [hl]
    have Hinv := hide (hR.inv.sub (l := l) (by rw [hl]; exact List.sublist_cons_self _ _))
    rw [hl] at hh
    rw [hpop] at hR2
    have Hpop := hide hR2
    obtain ⟨kb, hkb⟩ : ∃ k, w.heap.size = k := ⟨_, rfl⟩
    have hD := hh.new e.cs.toArray 84
    have hQ2 := h.alloc (.cells e.cs.toArray 84)
    rw [hkb] at hD
    have hN := cells9r (Heap.heap hD)
    have Hkb := hide hkb
    have HD := hide hD
    have HQ2 := hide hQ2
    have hready : e.ready = if e.store then e.placed && e.data else e.read := rfl
    have Hready := hide hready
    have hcs0 : e.cs.toArray = #[.int .i64 e.tag, .int .u64 e.pc, .bool e.store, .bool e.placed, .bool e.data, .bool e.read, .int .u64 e.at_, .int .i64 e.size, .int .u64 e.v] := rfl
    rw [hcs0] at hN HD HQ2
    obtain ⟨n0, n1, n2, n3, n4, n5, n6, n7, n8⟩ := hN
    have hnl := lt_of_heap' (Heap.heap (unhide HD))
    clear hR h hh hR2 hl hm hlm hpop HR2 hkb hD hQ2 hready hcs0
    obtain ⟨rdy, hrdy⟩ : ∃ r, e.ready = r := ⟨_, rfl⟩
    have Hrdy := hide hrdy
    rw [unhide Hready] at hrdy
    go_enter Try.func25, Try.ntmps25
    go_upto_region 4 with fail
    rw [unhide Hkb]
    generalize (.agg #[.int .i64 e.tag, .int .u64 e.pc, .bool e.store, .bool e.placed, .bool e.data, .bool e.read, .int .u64 e.at_, .int .i64 e.size, .int .u64 e.v] : Value) = ag
    generalize w.alloc (.cells #[.int .i64 e.tag, .int .u64 e.pc, .bool e.store, .bool e.placed, .bool e.data, .bool e.read, .int .u64 e.at_, .int .i64 e.size, .int .u64 e.v] 84) = wd at n0 n1 n2 n3 n4 n5 n6 n7 n8 hnl HD HQ2 ⊢
    clear q0 hbl d0 d1 d2 d3 d4 d5 d6 d7 d8 hgl
    have c0 : wd.cell? ⟨b, 0, none⟩ = some (.slice (some ⟨g, o, none⟩) (m + 1) cap) := (cell_blk (Heap.heap (unhide HD).f2) 0).1
    have f0 := (cell_blk (Heap.heap (unhide HD).f2) 0).2
    have hbl := lt_of_heap' (Heap.heap (unhide HD).f2)
    go_cut [37] (fun s wx => s = .bool (!rdy) ∧ wx = wd)
    case first =>
      cases hs : e.store with
      | false =>
        rw [hs] at n2 hrdy
        simp only [Bool.false_eq_true, if_false] at hrdy
        rw [hrdy] at n5
        clear hrdy
        cases rdy with
        | false =>
          go_wp2
          go_meet
          exact ⟨rfl, rfl⟩
        | true =>
          go_wp2
          go_meet
          exact ⟨rfl, rfl⟩
      | true =>
        rw [hs] at n2 hrdy
        simp only [if_true] at hrdy
        cases hp : e.placed with
        | false =>
          rw [hp] at n3 hrdy
          obtain rfl : rdy = false := hrdy.symm
          clear hrdy
          go_wp2
          go_meet
          exact ⟨rfl, rfl⟩
        | true =>
          rw [hp] at n3 hrdy
          rw [Bool.true_and] at hrdy
          rw [hrdy] at n4
          clear hrdy
          cases rdy with
          | false =>
            go_wp2
            go_meet
            exact ⟨rfl, rfl⟩
          | true =>
            go_wp2
            go_meet
            exact ⟨rfl, rfl⟩
    case rest =>
      obtain ⟨rfl, rfl⟩ := hcut
      clear hrdy
      cases rdy with
      | false =>
        have hfin := hide (show R = ((0, false), q) by rw [← unhide Hpop, unhide Hrdy]; rfl)
        go_wp2
        go_ret2
        exact ⟨by rw [unhide hfin]; rfl, by rw [unhide hfin]; exact unhide HQ2⟩
      | true =>
        have hfin0 : R = ((e.tag, true), ⟨l, q.h⟩) := by rw [← unhide Hpop, unhide Hrdy]; rfl
        have hfin := hide (And.intro (show R.1.1 = e.tag by rw [hfin0]) (And.intro (show R.1.2 = true by rw [hfin0]) (show R.2 = ⟨l, q.h⟩ by rw [hfin0])))
        clear hfin0
        have htl := (unhide HD).f3.slw.tail (k := 1) (by omega)
        by_cases hc1 : cap = 1
        · obtain rfl : m = 0 := by omega
          subst hc1
          have hV : Sl wc 9 (.slice (some ⟨g, o, none⟩) 0 0) 0 (entsC l) := by
            have := htl
            rw [show 1 * 9 = 9 from rfl, entsC_drop] at this
            simpa using this
          have HV := hide hV
          clear hV htl
          have hE := (unhide HD).emptyW (sz := 9) 84
          have HE := hide hE
          clear hE
          go_wp2_with (at_builtin; refine wpList_append_sl (n := 0) (m := 0) rfl _ _ 70 rfl 84 i0 _ 9 48 Try.underlying70 hi hz0 hz1 hz2 rfl rfl rfl (unhide HE).slw ((unhide HV).gn ((GN.refl _).alloc _)) (entsC_cell _) (by omega) (by omega) ?_; intro v' w2 hsl hgr hblk hsp; obtain ⟨A', cap', rfl, _⟩ := hsl.parts; have hA := (unhide HE).appendw hsl hgr hblk; clear c0 f0 hbl n0 n1 n2 n3 n4 n5 n6 n7 n8 hnl hsl hgr hblk hsp HE; rw [List.nil_append, Nat.zero_add] at hA; try rw [Nat.zero_add]; have c0 : w2.cell? ⟨b, 0, none⟩ = some (.slice (some ⟨g, o, none⟩) (0 + 1) 1) := (cell_blk (Heap.heap hA.f3) 0).1; have f0 := (cell_blk (Heap.heap hA.f3) 0).2; have hbl := lt_of_heap' (Heap.heap hA.f3); have HA := hide hA; clear hA; refine unhide ?_)
          refine hide ?_
          have hC : Heap w0 _ (HP.blk b #[.slice A' 0 cap', .slice (some ⟨gh, oh, none⟩) 16 ch, .slice (some ⟨gi, oi, none⟩) 16 ci] 72 :: _) := (unhide HA).f3.set 0 (.slice A' 0 cap')
          have hN := (cell_blk (Heap.heap hC.f3) 0).1
          have hnl := lt_of_heap' (Heap.heap hC.f3)
          have HC := hide hC
          clear hC HA
          have n0 : (w2.setCell ⟨b, 0, none⟩ (.slice A' 0 cap')).cell? ⟨kb, 0, none⟩ = some (.int .i64 e.tag) := hN
          clear hN
          go_upto_region 7 with fail
          generalize w2.setCell ⟨b, 0, none⟩ (.slice A' 0 cap') = w4 at *
          go_wp2
          go_ret2
          refine ⟨by rw [(unhide hfin).1, (unhide hfin).2.1]; rfl, ?_⟩
          rw [(unhide hfin).2.2]
          refine Heap.rr.2 ⟨(.slice A' 0 cap', .slice (some ⟨gh, oh, none⟩) 16 ch, .slice (some ⟨gi, oi, none⟩) 16 ci), unhide Hinv, ?_⟩
          show Heap w0 w4 (HP.blk b #[.slice A' 0 cap', .slice (some ⟨gh, oh, none⟩) 16 ch, .slice (some ⟨gi, oi, none⟩) 16 ci] 72 :: HP.slw (.slice A' 0 cap') 9 l.length (entsC l) :: HP.slw (.slice (some ⟨gh, oh, none⟩) 16 ch) 1 16 (hU q.h) :: HP.slw (.slice (some ⟨gi, oi, none⟩) 16 ci) 1 16 (hB q.h) :: L)
          rw [unhide Hm]
          exact (unhide HC).f3.tail.f3.tail
        · have hV : Sl wc 9 (.slice (some ⟨g, o + 9, none⟩) m (cap - 1)) m (entsC l) := by
            have := htl
            rw [show 1 * 9 = 9 from rfl, entsC_drop] at this
            simpa [hc1, Addr.add] using this
          have HV := hide hV
          clear hV htl
          have hE := (unhide HD).emptyW (sz := 9) 84
          have HE := hide hE
          clear hE
          go_wp2_with (at_builtin; refine wpList_append_sl (n := 0) (m := m) rfl _ _ 70 rfl 84 i0 _ 9 48 Try.underlying70 hi hz0 hz1 hz2 rfl rfl rfl (unhide HE).slw ((unhide HV).gn ((GN.refl _).alloc _)) (entsC_cell _) (by omega) (by omega) ?_; intro v' w2 hsl hgr hblk hsp; obtain ⟨A', cap', rfl, _⟩ := hsl.parts; have hA := (unhide HE).appendw hsl hgr hblk; clear c0 f0 hbl n0 n1 n2 n3 n4 n5 n6 n7 n8 hnl hsl hgr hblk hsp HE; rw [List.nil_append, Nat.zero_add] at hA; try rw [Nat.zero_add]; have c0 : w2.cell? ⟨b, 0, none⟩ = some (.slice (some ⟨g, o, none⟩) (m + 1) cap) := (cell_blk (Heap.heap hA.f3) 0).1; have f0 := (cell_blk (Heap.heap hA.f3) 0).2; have hbl := lt_of_heap' (Heap.heap hA.f3); have HA := hide hA; clear hA; refine unhide ?_)
          refine hide ?_
          have hC : Heap w0 _ (HP.blk b #[.slice A' m cap', .slice (some ⟨gh, oh, none⟩) 16 ch, .slice (some ⟨gi, oi, none⟩) 16 ci] 72 :: _) := (unhide HA).f3.set 0 (.slice A' m cap')
          have hN := (cell_blk (Heap.heap hC.f3) 0).1
          have hnl := lt_of_heap' (Heap.heap hC.f3)
          have HC := hide hC
          clear hC HA
          have n0 : (w2.setCell ⟨b, 0, none⟩ (.slice A' m cap')).cell? ⟨kb, 0, none⟩ = some (.int .i64 e.tag) := hN
          clear hN
          go_upto_region 7 with fail
          generalize w2.setCell ⟨b, 0, none⟩ (.slice A' m cap') = w4 at *
          go_wp2
          go_ret2
          refine ⟨by rw [(unhide hfin).1, (unhide hfin).2.1]; rfl, ?_⟩
          rw [(unhide hfin).2.2]
          refine Heap.rr.2 ⟨(.slice A' m cap', .slice (some ⟨gh, oh, none⟩) 16 ch, .slice (some ⟨gi, oi, none⟩) 16 ci), unhide Hinv, ?_⟩
          show Heap w0 w4 (HP.blk b #[.slice A' m cap', .slice (some ⟨gh, oh, none⟩) 16 ch, .slice (some ⟨gi, oi, none⟩) 16 ci] 72 :: HP.slw (.slice A' m cap') 9 l.length (entsC l) :: HP.slw (.slice (some ⟨gh, oh, none⟩) 16 ch) 1 16 (hU q.h) :: HP.slw (.slice (some ⟨gi, oi, none⟩) 16 ci) 1 16 (hB q.h) :: L)
          rw [unhide Hm]
          exact (unhide HC).f3.tail.f3.tail
end
end Go.Proofs.Ytdmkgomcomcfhaa
