/- Layer 23: what is read of a queue: has, ready, Count, find, giver, habit. -/
import Derived.Test.YtdmkgomcomcfhaaQ2
namespace Go.Proofs.Ytdmkgomcomcfhaa
open Go.RowKit

theorem size_bd {e : Ent} (h : e.ok) : 0 ≤ e.size ∧ e.size ≤ 8 := by
  rcases h.size with ⟨_, h⟩ | ⟨_, h, _⟩ <;> omega
theorem nLd_up {l : List Ent} {k : Nat} {e : Ent} (h : l[k]? = some e) : nLd (l.take (k + 1)) = nLd (l.take k) + if e.store then 0 else 1 := by
  unfold nLd
  rw [List.take_add_one, h, List.countP_append]
  cases hs : e.store <;> simp [hs]
theorem nSt_up {l : List Ent} {k : Nat} {e : Ent} (h : l[k]? = some e) : nSt (l.take (k + 1)) = nSt (l.take k) + if e.store then 1 else 0 := by
  unfold nSt
  rw [List.take_add_one, h, List.countP_append]
  cases hs : e.store <;> simp [hs]
theorem findN_at {l : List Ent} {t : Int} {k : Nat} {e : Ent} (h : l[k]? = some e) (ht : e.tag = t) (hno : ∀ j e', j < k → l[j]? = some e' → e'.tag ≠ t) : findN l t = some k := by
  obtain ⟨hk, he⟩ := List.getElem?_eq_some_iff.1 h
  unfold findN
  rw [List.findIdx?_eq_some_iff_getElem]
  refine ⟨hk, by rw [he]; simpa using ht, fun j hj => ?_⟩
  have := hno j _ hj (List.getElem?_eq_getElem (by omega))
  simpa using this
theorem findN_none {l : List Ent} {t : Int} (hno : ∀ j e', j < l.length → l[j]? = some e' → e'.tag ≠ t) : findN l t = none := by
  unfold findN
  rw [List.findIdx?_eq_none_iff]
  intro e he
  obtain ⟨j, hj, h⟩ := List.getElem_of_mem he
  have := hno j e hj (by rw [← h]; exact List.getElem?_eq_getElem hj)
  simpa using this
theorem giver_at {l : List Ent} {a : Int} {k : Nat} {e : Ent} (h : l[k]? = some e) : giver l a (k + 1) = if e.store && e.has a then some k else giver l a k := by
  simp only [giver, h]
section
variable {w : World}
set_option maxRecDepth 100000 in
theorem has_any {x : Nat} {e : Ent} (hb : w.heap[x]? = some (.cells e.cs.toArray 76 (0, 0))) (he : e.ok) (a : Int) (a0 : 0 ≤ a) (a1 : a < 18446744073709551616) :
    Calls Try.prog 45 #[ptr x, .int .u64 a] w fun r w' => r = .returned (.bool (e.has a)) ∧ GN w w' := by
  obtain ⟨d0, d1, d2, d3, d4, d5, d6, d7, d8⟩ := cells9 hb
  have hxl := lt_of_heap' hb
  obtain ⟨s0, s8⟩ := size_bd he
  have hat := he.at_
  obtain ⟨tag, pc, store, placed, data, read, at_, size, v⟩ := e
  simp only at d0 d1 d2 d3 d4 d5 d6 d7 d8 s0 s8 hat
  unfold Ent.has ptr
  simp only
  clear hb he
  have e1 : IntKind.u64.wrap (a - at_) = (a - at_) % 18446744073709551616 := IntKind.wrap_u64 _
  have e2 : IntKind.u64.wrap size = size := by rw [IntKind.wrap_u64]; omega
  go_enter Try.func45, Try.ntmps45
  go_wp2
  cases placed with
  | true =>
    go_quiet (fail)
    go_wp2
    go_ret
    exact ⟨by simp, (GN.refl w).drewN _⟩
  | false =>
    go_quiet (fail)
    go_wp2
    go_ret
    exact ⟨by simp, (GN.refl w).drewN _⟩
theorem ready_any {x : Nat} {e : Ent} (hb : w.heap[x]? = some (.cells e.cs.toArray 76 (0, 0))) :
    Calls Try.prog 43 #[ptr x] w fun r w' => r = .returned (.bool e.ready) ∧ w' = w := by
  obtain ⟨d0, d1, d2, d3, d4, d5, d6, d7, d8⟩ := cells9 hb
  have hxl := lt_of_heap' hb
  obtain ⟨tag, pc, store, placed, data, read, at_, size, v⟩ := e
  simp only at d0 d1 d2 d3 d4 d5 d6 d7 d8
  unfold Ent.ready ptr
  simp only
  clear hb
  go_enter Try.func43, Try.ntmps43
  cases store with
  | false =>
    go_wp2
    go_ret
    exact ⟨by simp, rfl⟩
  | true =>
    cases placed with
    | true =>
      go_wp2
      go_ret
      exact ⟨by simp, rfl⟩
    | false =>
      go_wp2
      go_ret
      exact ⟨by simp, rfl⟩
theorem habit_any (b : Nat) (pc : Int) (p0 : 0 ≤ pc) (p1 : pc < 18446744073709551616) :
    Calls Try.prog 38 #[ptr b, .int .u64 pc] w fun r w' => r = .returned (.pointer (some ⟨b, 1 + rowN pc * 2, none⟩)) ∧ w' = w := by
  unfold ptr
  go_enter Try.func38, Try.ntmps38
  go_wp2
  go_ret
  exact ⟨rfl, rfl⟩
variable {b : Nat} {q : Qs} {A : Option Addr} {cap : Nat} {bs : List Nat}
set_option maxRecDepth 100000 in
theorem count_any (h : RQ w b A cap bs q) :
    Calls Try.prog 28 #[ptr b] w fun r w' => r = .returned (.tuple #[.int .i64 (nLd q.l), .int .i64 (nSt q.l)]) ∧ w' = w := by
  obtain ⟨q0, _, hbl⟩ := h.c0
  have hl1 := h.inv.ld
  have hl2 := h.inv.st
  have hcnt := cnt q.l
  obtain ⟨n, hn⟩ : ∃ n, q.l.length = n := ⟨_, rfl⟩
  have H := hide h
  rw [hn] at q0 hcnt
  have hn16 : n ≤ 16 := by omega
  have Hn := hide hn
  clear h hn
  unfold ptr
  go_enter Try.func28, Try.ntmps28
  go_wp2
  go_loopw [4, 5, 13] (fun x y i wr => ∃ k : Nat, i = .int .i64 k ∧ k ≤ n ∧ x = .int .i64 (nLd (q.l.take k)) ∧ y = .int .i64 (nSt (q.l.take k)) ∧ wr = w) (fun _ _ i _ => n - (intOf i).toNat)
  case atStart => exact ⟨0, rfl, Nat.zero_le _, rfl, rfl, rfl⟩
  case round =>
    obtain ⟨k, rfl, hk, rfl, rfl, rfl⟩ := hrel
    by_cases hlt : k < n
    · obtain ⟨g, o, x, e, rfl, he, hx, hgl, hg, hxl, hxb⟩ := (unhide H).at_ (k := k) (by rw [unhide Hn]; exact hlt)
      obtain ⟨d0, d1, d2, d3, d4, d5, d6, d7, d8⟩ := cells9 hxb
      have u1 := nLd_up he
      have u2 := nSt_up he
      unfold ptr at hg
      have hle : (nLd (q.l.take k) : Int) ≤ 16 ∧ (nSt (q.l.take k) : Int) ≤ 16 := by
        have := cnt (q.l.take k)
        rw [List.length_take] at this
        omega
      obtain ⟨a1, h1⟩ : ∃ a, nLd (q.l.take k) = a := ⟨_, rfl⟩
      obtain ⟨a2, h2⟩ : ∃ a, nSt (q.l.take k) = a := ⟨_, rfl⟩
      rw [h1] at u1 hle ⊢
      rw [h2] at u2 hle ⊢
      clear hx he hxb h1 h2
      cases hs : e.store with
      | true =>
        rw [hs] at u1 u2 d2
        simp only [if_true] at u1 u2
        have U := hide (And.intro u1 u2)
        clear u1 u2 hs
        go_wp2
        refine ⟨⟨k + 1, by go_num, by omega, by rw [(unhide U).1]; go_num, by rw [(unhide U).2]; go_num, trivial⟩, by simp [intOf]; omega⟩
      | false =>
        rw [hs] at u1 u2 d2
        simp only [Bool.false_eq_true, if_false] at u1 u2
        have U := hide (And.intro u1 u2)
        clear u1 u2 hs
        go_wp2
        refine ⟨⟨k + 1, by go_num, by omega, by rw [(unhide U).1]; go_num, by rw [(unhide U).2]; go_num, trivial⟩, by simp [intOf]; omega⟩
    · obtain rfl : k = n := by omega
      rw [← unhide Hn, List.take_length]
      go_wp2
      go_ret2
      exact ⟨rfl, rfl⟩
set_option maxRecDepth 100000 in
theorem find_any (h : RQ w b A cap bs q) (tag : Int) :
    Calls Try.prog 35 #[ptr b, .int .i64 tag] w fun r w' => r = .returned (.int .i64 (optI (findN q.l tag))) ∧ w' = w := by
  obtain ⟨q0, _, hbl⟩ := h.c0
  have hl1 := h.inv.ld
  have hl2 := h.inv.st
  have hcnt := cnt q.l
  obtain ⟨n, hn⟩ : ∃ n, q.l.length = n := ⟨_, rfl⟩
  have H := hide h
  rw [hn] at q0 hcnt
  have hn16 : n ≤ 16 := by omega
  have Hn := hide hn
  clear h hn hl1 hl2 hcnt
  unfold ptr
  go_enter Try.func35, Try.ntmps35
  go_wp2
  go_loopw [12] (fun i wr => ∃ k : Nat, i = .int .i64 k ∧ k ≤ n ∧ (∀ j e', j < k → q.l[j]? = some e' → e'.tag ≠ tag) ∧ wr = w) (fun i _ => n - (intOf i).toNat)
  case atStart => exact ⟨0, rfl, Nat.zero_le _, fun j e' h => by omega, rfl⟩
  case round =>
    obtain ⟨k, rfl, hk, hno, rfl⟩ := hrel
    have Hno := hide hno
    clear hno
    by_cases hlt : k < n
    · obtain ⟨g, o, x, e, rfl, he, hx, hgl, hg, hxl, hxb⟩ := (unhide H).at_ (k := k) (by rw [unhide Hn]; exact hlt)
      obtain ⟨d0, d1, d2, d3, d4, d5, d6, d7, d8⟩ := cells9 hxb
      unfold ptr at hg
      have He := hide he
      clear hx he hxb
      by_cases hq : e.tag = tag
      · have hz : (e.tag == tag) = true := beq_iff_eq.2 hq
        have hf := hide (findN_at (unhide He) hq (unhide Hno))
        clear hq
        go_wp2
        go_ret
        exact ⟨by rw [unhide hf]; rfl, rfl⟩
      · have hz : (e.tag == tag) = false := beq_eq_false_iff_ne.2 hq
        have Hq := hide hq
        clear hq
        go_wp2
        refine ⟨⟨k + 1, by go_num, by omega, fun j e' hj hje => ?_, trivial⟩, by simp [intOf]; omega⟩
        by_cases hjk : j = k
        · subst hjk
          rw [unhide He] at hje
          injection hje with hje
          rw [← hje]
          exact unhide Hq
        · exact unhide Hno j e' (by omega) hje
    · obtain rfl : k = n := by omega
      have hf := hide (findN_none (l := q.l) (t := tag) (by rw [unhide Hn]; exact unhide Hno))
      go_wp2
      go_ret
      exact ⟨by rw [unhide hf]; rfl, rfl⟩
set_option maxRecDepth 100000 in
theorem giver_any (h : RQ w b A cap bs q) (n : Nat) (hn : n ≤ q.l.length) (a : Int) (a0 : 0 ≤ a) (a1 : a < 18446744073709551616) :
    Calls Try.prog 44 #[ptr b, .int .i64 n, .int .u64 a] w fun r w' => r = .returned (.int .i64 (optI (giver q.l a n))) ∧ GN w w' := by
  have hl1 := h.inv.ld
  have hl2 := h.inv.st
  have hcnt := cnt q.l
  have hn16 : n ≤ 16 := by omega
  have H := hide h
  have Hn := hide hn
  clear h hn hl1 hl2 hcnt
  unfold ptr
  go_enter Try.func44, Try.ntmps44
  go_wp2
  go_loopw [7] (fun i wr => ∃ k : Nat, i = .int .i64 ((k : Int) - 1) ∧ k ≤ n ∧ giver q.l a k = giver q.l a n ∧ GN w wr) (fun i _ => (intOf i + 1).toNat)
  case atStart => exact ⟨n, by go_num, Nat.le_refl _, rfl, GN.refl _⟩
  case round =>
    obtain ⟨k, rfl, hk, hg0, hG⟩ := hrel
    have Hg := hide hg0
    clear hg0
    have HR := hide ((unhide H).gn hG)
    cases k with
    | zero =>
      have hf := hide (unhide Hg).symm
      go_wp2
      go_ret
      exact ⟨by rw [unhide hf]; rfl, hG⟩
    | succ k =>
      have hs1 : ((k + 1 : Nat) : Int) - 1 = (k : Int) := by omega
      rw [hs1]
      obtain ⟨g, o, x, e, rfl, he, hx, hgl, hg, hxl, hxb⟩ := (unhide HR).at_ (k := k) (Nat.lt_of_lt_of_le (Nat.lt_of_succ_le hk) (unhide Hn))
      obtain ⟨q0, _, hbl⟩ := (unhide HR).c0
      obtain ⟨d0, d1, d2, d3, d4, d5, d6, d7, d8⟩ := cells9 hxb
      have heo := (unhide HR).inv.ok e (List.mem_of_getElem? he)
      have hga := hide (giver_at (a := a) he)
      unfold ptr at hg
      have hklen : k < q.l.length := by have := unhide Hn; omega
      generalize q.l.length = len at *
      cases hs : e.store with
      | false =>
        rw [hs] at d2
        have hga2 := unhide hga
        rw [hs] at hga2
        have hga3 := hide hga2
        clear hga2 hga hs hx he hxb heo
        go_wp2
        exact ⟨⟨k, rfl, by omega, (unhide hga3).symm.trans (unhide Hg), hG⟩, by simp [intOf]⟩
      | true =>
        rw [hs] at d2
        have hcall := hide (has_any hxb heo a a0 a1)
        clear hx he heo
        go_wp2_with fail
        refine (unhide hcall).mono ?_
        rintro r w2 ⟨rfl, hg2⟩
        have hga2 := unhide hga
        rw [hs] at hga2
        simp only [Bool.true_and] at hga2
        cases hh : e.has a with
        | true =>
          rw [hh] at hga2
          have hf := hide ((unhide Hg).symm.trans hga2)
          clear hga hga2 hh hs hcall hxb
          go_wp2
          go_ret
          exact ⟨by rw [unhide hf]; rfl, hG.trans hg2⟩
        | false =>
          rw [hh] at hga2
          have hf := hide (hga2.symm.trans (unhide Hg))
          clear hga hga2 hh hs hcall hxb
          go_wp2
          exact ⟨⟨k, rfl, by omega, unhide hf, hG.trans hg2⟩, by simp [intOf]⟩
end
end Go.Proofs.Ytdmkgomcomcfhaa
