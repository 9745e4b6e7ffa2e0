/- Layer 23: Pop, Squash. -/
import Derived.Test.YtdmkgomcomcfhaaQ5
namespace Go.Proofs.Ytdmkgomcomcfhaa
open Go.RowKit

theorem takeWhile_at {l : List Ent} {t : Int} {k : Nat} {e : Ent} (h : l[k]? = some e) (hn : t ≤ e.tag) (hall : ∀ j e', j < k → l[j]? = some e' → e'.tag < t) : l.takeWhile (fun e => decide (e.tag < t)) = l.take k := by
  induction l generalizing k with
  | nil => simp at h
  | cons a l ih =>
    cases k with
    | zero =>
      simp at h
      subst h
      rw [List.takeWhile_cons_of_neg (by simp; omega), List.take_zero]
    | succ k =>
      have ha := hall 0 a (by omega) rfl
      rw [List.takeWhile_cons_of_pos (by simp; omega), List.take_succ_cons, ih (by simpa using h) fun j e' hj he => hall (j + 1) e' (by omega) (by simpa using he)]
theorem takeWhile_all {l : List Ent} {t : Int} (hall : ∀ j e', j < l.length → l[j]? = some e' → e'.tag < t) : l.takeWhile (fun e => decide (e.tag < t)) = l := by
  induction l with
  | nil => rfl
  | cons a l ih =>
    have ha := hall 0 a (by simp) rfl
    rw [List.takeWhile_cons_of_pos (by simp; omega), ih fun j e' hj he => hall (j + 1) e' (by simp; omega) (by simpa using he)]
section
variable {w0 w : World} {L : List HP} {b : Nat} {q : Qs}
set_option maxRecDepth 100000 in
set_option maxHeartbeats 2000000 in
theorem pop_h (h : Heap w0 w (HP.q b q :: L)) :
    Calls Try.prog 24 #[ptr b] w fun r w' => r = .returned (.tuple #[.int .i64 (popQ q).1.1, .bool (popQ q).1.2]) ∧ Heap w0 w' (HP.q b (popQ q).2 :: L) := by
  obtain ⟨A, cap, bs, hR, hh⟩ := h.qr
  obtain ⟨q0, _, hbl⟩ := hR.c0
  have hlen16 := hR.inv.len
  have hcapl := hR.capl
  have HQ := hide h
  obtain ⟨R, hR2⟩ : ∃ R, popQ q = R := ⟨_, rfl⟩
  rw [hR2]
  have HR2 := hide hR2
  unfold ptr
  cases hl : q.l with
  | nil =>
    rw [hl] at q0
    have hfin := hide (show R = ((0, false), q) by rw [← hR2]; unfold popQ; rw [hl])
    clear hR h hh hR2
    go_enter Try.func24, Try.ntmps24
    go_wp2
    go_ret2
    exact ⟨by rw [unhide hfin]; rfl, by rw [unhide hfin]; exact unhide HQ⟩
  | cons e l =>
    cases bs with
    | nil => have := hR.lenl; rw [hl] at this; simp at this
    | cons x bs' =>
    obtain ⟨g, o, x', rfl, hx, hgl, hg, hxl, hxb⟩ := hR.ent_at (k := 0) (e := e) (by rw [hl]; rfl)
    simp at hx
    subst hx
    rw [Nat.add_zero] at hg
    have hcall := hide (ready_any hxb)
    obtain ⟨d0, d1, d2, d3, d4, d5, d6, d7, d8⟩ := cells9 hxb
    unfold ptr at hg
    obtain ⟨m, hm⟩ : ∃ m, l.length = m := ⟨_, rfl⟩
    have hlm : q.l.length = m + 1 := by rw [hl, List.length_cons, hm]
    have Hlen2 := hide (And.intro (show bs'.length = l.length by have := hR.lenl; rw [hl] at this; simpa using this) hm)
    rw [hlm] at hh q0 hlen16 hcapl
    rw [hl] at hh
    have hpop : popQ q = if e.ready then ((e.tag, true), ⟨l, q.h⟩) else ((0, false), q) := by unfold popQ; rw [hl]
    have Hinv := hide (hR.inv.sub (l := l) (by rw [hl]; exact List.sublist_cons_self _ _))
    have HB2 := hide hh
    rw [hpop] at hR2
    have Hpop := hide hR2
    clear hR h hh hR2 hl hxb hlm hm hpop HR2
    go_enter Try.func24, Try.ntmps24
    go_wp2_with fail
    refine (unhide hcall).mono ?_
    rintro r w1 ⟨rfl, hw1⟩
    replace hw1 := hw1.symm
    subst hw1
    clear hcall
    cases hrd : e.ready with
    | false =>
      have hfin := hide (show R = ((0, false), q) by rw [← unhide Hpop, hrd]; rfl)
      go_wp2
      go_ret2
      exact ⟨by rw [unhide hfin]; rfl, by rw [unhide hfin]; exact unhide HQ⟩
    | true =>
      have hfin0 : R = ((e.tag, true), ⟨l, q.h⟩) := by rw [← unhide Hpop, hrd]; rfl
      have hfin := hide (And.intro (show R.1.1 = e.tag by rw [hfin0]) (And.intro (show R.1.2 = true by rw [hfin0]) (show R.2 = ⟨l, q.h⟩ by rw [hfin0])))
      clear hfin0
      have htl := (unhide HB2).f2.slw.tail (k := 1) (by omega)
      by_cases hc1 : cap = 1
      · obtain rfl : m = 0 := by omega
        subst hc1
        have Htl := hide htl
        clear htl
        have hV' : Sl w 1 (.slice (some ⟨g, o, none⟩) 0 (1 - 1)) 0 (ptrs bs') := by simpa [ptrs] using unhide Htl
        have hC := ((unhide HB2).f2.cutw hV' (.inl rfl)).f2.setl 0 (.slice (some ⟨g, o, none⟩) 0 (1 - 1))
        rw [qcs_set0] at hC
        have HC := hide hC
        clear hV' hC
        go_wp2
        go_ret2
        refine ⟨by rw [(unhide hfin).1, (unhide hfin).2.1]; rfl, ?_⟩
        rw [(unhide hfin).2.2]
        have h7 := (Heap.ents_cons.1 (unhide HC).f3).tail.b3
        refine Heap.qc (q := ⟨l, q.h⟩) (A := some ⟨g, o, none⟩) (cap := 1 - 1) (bs := bs') (unhide Hinv) (unhide Hlen2).1 ?_
        show Heap w0 _ (HP.blk b (qcs (.slice (some ⟨g, o, none⟩) l.length (1 - 1)) q.h).toArray 69 :: HP.slw (.slice (some ⟨g, o, none⟩) l.length (1 - 1)) 1 l.length (ptrs bs') :: HP.ents bs' l :: L)
        rw [(unhide Hlen2).2]
        exact h7
      · have Htl := hide htl
        clear htl
        have hV' : Sl w 1 (.slice (some ⟨g, o + 1, none⟩) m (cap - 1)) m (ptrs bs') := by simpa [ptrs, hc1, Addr.add] using unhide Htl
        have hC := ((unhide HB2).f2.cutw hV' (.inl rfl)).f2.setl 0 (.slice (some ⟨g, o + 1, none⟩) m (cap - 1))
        rw [qcs_set0] at hC
        have HC := hide hC
        clear hV' hC
        go_wp2
        go_ret2
        refine ⟨by rw [(unhide hfin).1, (unhide hfin).2.1]; rfl, ?_⟩
        rw [(unhide hfin).2.2]
        have h7 := (Heap.ents_cons.1 (unhide HC).f3).tail.b3
        refine Heap.qc (q := ⟨l, q.h⟩) (A := some ⟨g, o + 1, none⟩) (cap := cap - 1) (bs := bs') (unhide Hinv) (unhide Hlen2).1 ?_
        show Heap w0 _ (HP.blk b (qcs (.slice (some ⟨g, o + 1, none⟩) l.length (cap - 1)) q.h).toArray 69 :: HP.slw (.slice (some ⟨g, o + 1, none⟩) l.length (cap - 1)) 1 l.length (ptrs bs') :: HP.ents bs' l :: L)
        rw [(unhide Hlen2).2]
        exact h7
set_option maxRecDepth 100000 in
set_option maxHeartbeats 2000000 in
theorem squash_h (h : Heap w0 w (HP.q b q :: L)) (t : Int) :
    Calls Try.prog 26 #[ptr b, .int .i64 t] w fun r w' => r = .returned (.tuple #[]) ∧ Heap w0 w' (HP.q b (squashQ q t) :: L) := by
  obtain ⟨A, cap, bs, hR, hh⟩ := h.qr
  obtain ⟨q0, _, hbl⟩ := hR.c0
  have hlen16 := hR.inv.len
  have hcapl := hR.capl
  have HQ := hide h
  have HR := hide hR
  obtain ⟨q2, hq2⟩ : ∃ q2, squashQ q t = q2 := ⟨_, rfl⟩
  rw [hq2]
  have Hq2 := hide hq2
  obtain ⟨n, hn⟩ : ∃ n, q.l.length = n := ⟨_, rfl⟩
  rw [hn] at q0 hlen16 hcapl hh
  have Hn := hide hn
  have HB := hide hh
  clear h hh hR hn hq2
  unfold ptr
  go_enter Try.func26, Try.ntmps26
  go_wp2
  go_loopw [11] (fun i wr => ∃ k : Nat, i = .int .i64 k ∧ k ≤ n ∧ (∀ j e', j < k → q.l[j]? = some e' → e'.tag < t) ∧ wr = w) (fun i _ => n - (intOf i).toNat)
  case atStart => exact ⟨0, rfl, Nat.zero_le _, fun j e' h => by omega, rfl⟩
  case round =>
    obtain ⟨k, rfl, hk, hno, rfl⟩ := hrel
    have Hno := hide hno
    clear hno
    by_cases hlt : k < n
    · obtain ⟨g, o, x, e, rfl, he, hx, hgl, hg, hxl, hxb⟩ := (unhide HR).at_ (k := k) (by rw [unhide Hn]; exact hlt)
      obtain ⟨d0, d1, d2, d3, d4, d5, d6, d7, d8⟩ := cells9 hxb
      unfold ptr at hg
      have He := hide he
      clear hx he hxb
      by_cases hq : t ≤ e.tag
      · have hz : decide (t ≤ e.tag) = true := decide_eq_true hq
        have hf : q2 = ⟨q.l.take k, q.h⟩ := by rw [← unhide Hq2]; unfold squashQ; rw [takeWhile_at (unhide He) hq (unhide Hno)]
        have Hf := hide hf
        have hF := (unhide HB).f2.slw.front (k := k) (c := cap) (by omega) (by omega) (Nat.le_refl _)
        have hC := ((unhide HB).f2.cutw hF (.inl rfl)).f2.setl 0 (.slice (some ⟨g, o, none⟩) k cap)
        rw [qcs_set0] at hC
        have HC := hide hC
        clear hF hC hf hq
        go_wp2
        refine bodyPost_ret (v := .tuple #[]) (by simp [results, Try.results26, go_sem]) rfl ⟨rfl, ?_⟩
        rw [unhide Hf]
        have h7 := ((unhide HC).f3.ents_take k).b3
        have hl2 : (q.l.take k).length = k := by rw [List.length_take, unhide Hn]; omega
        refine Heap.qc (q := ⟨q.l.take k, q.h⟩) (A := some ⟨g, o, none⟩) (cap := cap) (bs := bs.take k) ((unhide HR).inv.sub (List.take_sublist _ _)) (by rw [List.length_take, (unhide HR).lenl]; exact List.length_take.symm) ?_
        show Heap w0 _ (HP.blk b (qcs (.slice (some ⟨g, o, none⟩) (q.l.take k).length cap) q.h).toArray 69 :: HP.slw (.slice (some ⟨g, o, none⟩) (q.l.take k).length cap) 1 (q.l.take k).length (ptrs (bs.take k)) :: HP.ents (bs.take k) (q.l.take k) :: L)
        rw [hl2, show ptrs (bs.take k) = (ptrs bs).take (k * 1) by simp [ptrs, List.map_take]]
        exact h7
      · have hz : decide (t ≤ e.tag) = false := decide_eq_false hq
        have Hq := hide hq
        clear hq
        go_wp2
        refine ⟨⟨k + 1, by go_num, by omega, fun j e' hj hje => ?_, trivial⟩, by simp [intOf]; omega⟩
        by_cases hjk : j = k
        · subst hjk
          rw [unhide He] at hje
          injection hje with hje
          rw [← hje]
          have := unhide Hq
          omega
        · exact unhide Hno j e' (by omega) hje
    · obtain rfl : k = n := by omega
      have hf : q2 = q := by rw [← unhide Hq2]; unfold squashQ; rw [takeWhile_all (by rw [unhide Hn]; exact unhide Hno)]
      have Hf := hide hf
      clear hf
      go_wp2
      exact bodyPost_end (v := .tuple #[]) (by simp [results, Try.results26, go_sem]) rfl ⟨rfl, by rw [unhide Hf]; exact unhide HQ⟩
end
end Go.Proofs.Ytdmkgomcomcfhaa
