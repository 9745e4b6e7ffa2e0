/- Layer 23: what is read of the reference's queue: Count, find, giver, row. -/
import Derived.Test.YtdmkgomcomcfhaaR1
namespace Go.Proofs.Ytdmkgomcomcfhaa
open Go.RowKit
section
variable {w : World} {b : Nat} {q : Qs} {A : Option Addr} {cap gh oh ch gi oi ci : Nat}
theorem cells9r {w : World} {b : Nat} {e : Ent} (h : w.heap[b]? = some (.cells e.cs.toArray 84 (0, 0))) :
    w.cell? ⟨b, 0, none⟩ = some (.int .i64 e.tag) ∧ w.cell? ⟨b, 1, none⟩ = some (.int .u64 e.pc) ∧ w.cell? ⟨b, 2, none⟩ = some (.bool e.store) ∧ w.cell? ⟨b, 3, none⟩ = some (.bool e.placed) ∧ w.cell? ⟨b, 4, none⟩ = some (.bool e.data) ∧
    w.cell? ⟨b, 5, none⟩ = some (.bool e.read) ∧ w.cell? ⟨b, 6, none⟩ = some (.int .u64 e.at_) ∧ w.cell? ⟨b, 7, none⟩ = some (.int .i64 e.size) ∧ w.cell? ⟨b, 8, none⟩ = some (.int .u64 e.v) := by
  simp [World.cell?, h, Ent.cs]
theorem iw64 {x : Int} (h0 : -9223372036854775808 ≤ x) (h1 : x < 9223372036854775808) : IntKind.i64.wrap x = x := by rw [wrap_i64]; split <;> omega
theorem row_any (pc : Int) (p0 : 0 ≤ pc) (p1 : pc < 18446744073709551616) :
    Calls Try.prog 41 #[.int .u64 pc] w fun r w' => r = .returned (.int .i64 (rowN pc : Nat)) ∧ w' = w := by
  have hr : ((rowN pc : Nat) : Int) = (pc.tdiv 2).tmod 16 := by
    unfold rowN
    rw [Int.tdiv_eq_ediv_of_nonneg p0, Int.tmod_eq_emod_of_nonneg (by omega)]
    omega
  have hb := rowN_lt pc
  have e1 : IntKind.u64.wrap (pc.tdiv 2) = pc.tdiv 2 := by rw [IntKind.wrap_u64, Int.tdiv_eq_ediv_of_nonneg p0]; omega
  have e2 : IntKind.u64.wrap ((pc.tdiv 2).tmod 16) = (pc.tdiv 2).tmod 16 := by rw [← hr, IntKind.wrap_u64]; omega
  have e3 : IntKind.i64.wrap ((pc.tdiv 2).tmod 16) = (pc.tdiv 2).tmod 16 := by rw [← hr]; exact iw64 (by omega) (by omega)
  have HR := hide hr
  clear hr
  go_enter Try.func41, Try.ntmps41
  go_wp2
  go_ret
  rw [unhide HR]
  exact ⟨rfl, rfl⟩
set_option maxRecDepth 100000 in
theorem countR (h : RR w b A cap gh oh ch gi oi ci q) :
    Calls Try.prog 29 #[ptr b] w fun r w' => r = .returned (.tuple #[.int .i64 (nLd q.l), .int .i64 (nSt q.l)]) ∧ GN w w' := by
  obtain ⟨q0, _, hbl⟩ := h.c0
  have hl1 := h.inv.ld
  have hl2 := h.inv.st
  have hcnt := cnt q.l
  obtain ⟨n, hn⟩ : ∃ n, q.l.length = n := ⟨_, rfl⟩
  have H := hide h
  rw [hn] at q0 hcnt
  have hn16 : n ≤ 16 := by omega
  have Hn := hide hn
  have Hcnt := hide hcnt
  clear h hn hcnt
  unfold ptr
  go_enter Try.func29, Try.ntmps29
  go_wp2
  go_loopw [4, 5] (fun x i wr => ∃ k : Nat, i = .int .i64 k ∧ k ≤ n ∧ x = .int .i64 (nLd (q.l.take k)) ∧ wr = w) (fun _ i _ => n - (intOf i).toNat)
  case atStart => exact ⟨0, rfl, Nat.zero_le _, rfl, rfl⟩
  case round =>
    obtain ⟨k, rfl, hk, rfl, rfl⟩ := hrel
    by_cases hlt : k < n
    · obtain ⟨g, o, e, rfl, he, hgl, d0, d1, d2, d3, d4, d5, d6, d7, d8⟩ := (unhide H).at_ (k := k) (by rw [unhide Hn]; exact hlt)
      have u1 := nLd_up he
      have hle : (nLd (q.l.take k) : Int) ≤ 16 := by
        have := cnt (q.l.take k)
        rw [List.length_take] at this
        omega
      obtain ⟨a1, h1⟩ : ∃ a, nLd (q.l.take k) = a := ⟨_, rfl⟩
      rw [h1] at u1 hle ⊢
      clear he h1
      cases hs : e.store with
      | true =>
        rw [hs] at u1 d2
        simp only [if_true] at u1
        have U := hide u1
        clear u1 hs
        go_wp2
        refine ⟨⟨k + 1, by go_num, by omega, by rw [unhide U]; go_num, trivial⟩, by simp [intOf]; omega⟩
      | false =>
        rw [hs] at u1 d2
        simp only [Bool.false_eq_true, if_false] at u1
        have U := hide u1
        clear u1 hs
        go_wp2
        refine ⟨⟨k + 1, by go_num, by omega, by rw [unhide U]; go_num, trivial⟩, by simp [intOf]; omega⟩
    · obtain rfl : k = n := by omega
      rw [← unhide Hn, List.take_length, unhide Hn]
      obtain ⟨x, hx⟩ : ∃ x, nLd q.l = x := ⟨_, rfl⟩
      obtain ⟨y, hy⟩ : ∃ y, nSt q.l = y := ⟨_, rfl⟩
      have HX := hide hx
      have HY := hide hy
      rw [hx] at hl1 ⊢
      rw [hy] at hl2
      have hd : (k : Int) - (x : Int) = (y : Int) := by have := unhide Hcnt; omega
      clear hx hy
      go_wp2
      go_quiet (fail)
      go_wp2
      go_ret2
      rw [unhide HX, unhide HY]
      exact ⟨rfl, (GN.refl _).drewN _⟩
set_option maxRecDepth 100000 in
theorem findR (h : RR w b A cap gh oh ch gi oi ci q) (tag : Int) :
    Calls Try.prog 39 #[ptr b, .int .i64 tag] w fun r w' => r = .returned (.int .i64 (optI (findN q.l tag))) ∧ w' = w := by
  obtain ⟨q0, _, hbl⟩ := h.c0
  have hl1 := h.inv.ld
  have hl2 := h.inv.st
  have hcnt := cnt q.l
  obtain ⟨n, hn⟩ : ∃ n, q.l.length = n := ⟨_, rfl⟩
  have H := hide h
  rw [hn] at q0 hcnt
  have hn16 : n ≤ 16 := by omega
  have Hn := hide hn
  clear h hn hl1 hl2 hcnt
  unfold ptr
  go_enter Try.func39, Try.ntmps39
  go_wp2
  go_loopw [5] (fun i wr => ∃ k : Nat, i = .int .i64 k ∧ k ≤ n ∧ (∀ j e', j < k → q.l[j]? = some e' → e'.tag ≠ tag) ∧ wr = w) (fun i _ => n - (intOf i).toNat)
  case atStart => exact ⟨0, rfl, Nat.zero_le _, fun j e' h => by omega, rfl⟩
  case round =>
    obtain ⟨k, rfl, hk, hno, rfl⟩ := hrel
    have Hno := hide hno
    clear hno
    by_cases hlt : k < n
    · obtain ⟨g, o, e, rfl, he, hgl, d0, d1, d2, d3, d4, d5, d6, d7, d8⟩ := (unhide H).at_ (k := k) (by rw [unhide Hn]; exact hlt)
      have He := hide he
      clear he d1 d2 d3 d4 d5 d6 d7 d8
      by_cases hq : e.tag = tag
      · have hz : (e.tag == tag) = true := beq_iff_eq.2 hq
        have hf := hide (findN_at (unhide He) hq (unhide Hno))
        clear hq
        go_wp2
        go_ret
        exact ⟨by rw [unhide hf]; rfl, rfl⟩
      · have hz : (e.tag == tag) = false := beq_eq_false_iff_ne.2 hq
        have Hq := hide hq
        clear hq
        go_wp2
        refine ⟨⟨k + 1, by go_num, by omega, fun j e' hj hje => ?_, trivial⟩, by simp [intOf]; omega⟩
        by_cases hjk : j = k
        · subst hjk
          rw [unhide He] at hje
          injection hje with hje
          rw [← hje]
          exact unhide Hq
        · exact unhide Hno j e' (by omega) hje
    · obtain rfl : k = n := by omega
      have hf := hide (findN_none (l := q.l) (t := tag) (by rw [unhide Hn]; exact unhide Hno))
      go_wp2
      go_ret
      exact ⟨by rw [unhide hf]; rfl, rfl⟩
set_option maxRecDepth 100000 in
theorem giverR (h : RR w b A cap gh oh ch gi oi ci q) (n : Nat) (hn : n ≤ q.l.length) (a : Int) (a0 : 0 ≤ a) (a1 : a < 18446744073709551616) :
    Calls Try.prog 40 #[ptr b, .int .i64 n, .int .u64 a] w fun r w' => r = .returned (.int .i64 (optI (giver q.l a n))) ∧ GN w w' := by
  have hl16 := h.inv.len
  have H := hide h
  obtain ⟨len, hlen⟩ : ∃ m, q.l.length = m := ⟨_, rfl⟩
  have Hlen := hide hlen
  rw [hlen] at hn hl16
  have hn16 : n ≤ 16 := by omega
  clear h hlen
  unfold ptr
  go_enter Try.func40, Try.ntmps40
  go_wp2
  go_loopw [7, 8] (fun x i wr => ∃ k : Nat, i = .int .i64 k ∧ k ≤ n ∧ x = .int .i64 (optI (giver q.l a k)) ∧ GN w wr) (fun _ i _ => n - (intOf i).toNat)
  case atStart => exact ⟨0, rfl, Nat.zero_le _, rfl, GN.refl _⟩
  case round =>
    obtain ⟨k, rfl, hk, rfl, hG⟩ := hrel
    have HR := hide ((unhide H).gn hG)
    by_cases hlt : k < n
    · obtain ⟨g, o, e, rfl, he, hgl, hc9⟩ := (unhide HR).at_ (k := k) (by rw [unhide Hlen]; omega)
      obtain ⟨q0, _, hbl⟩ := (unhide HR).c0
      rw [unhide Hlen] at q0
      have heo := (unhide HR).inv.ok e (List.mem_of_getElem? he)
      have hga := giver_at (a := a) he
      rw [has_ref heo a a0 a1] at hga
      obtain ⟨s0, s8⟩ := size_bd heo
      have hat := heo.at_
      obtain ⟨kb, hkb⟩ : ∃ k, wr.heap.size = k := ⟨_, rfl⟩
      have hN := cells9r (heap_new' wr (.cells e.cs.toArray 84))
      have hnl := lt_of_heap' (heap_new' wr (.cells e.cs.toArray 84))
      rw [hkb] at hN hnl
      obtain ⟨d0, d1, d2, d3, d4, d5, d6, d7, d8⟩ := hc9
      have hG2 := hide (show GN w (wr.alloc (.cells e.cs.toArray 84)) from hG.alloc _)
      obtain ⟨tag, pc, store, placed, data, read, at_, size, v⟩ := e
      unfold Ent.cs at hN hnl hG2
      obtain ⟨n0, n1, n2, n3, n4, n5, n6, n7, n8⟩ := hN
      simp only at d0 d1 d2 d3 d4 d5 d6 d7 d8 n0 n1 n2 n3 n4 n5 n6 n7 n8 s0 s8 hat hga
      obtain ⟨x, hx⟩ : ∃ x, optI (giver q.l a k) = x := ⟨_, rfl⟩
      have Hx := hide hx
      rw [hx]
      have e1 : IntKind.u64.wrap (a - at_) = (a - at_) % 18446744073709551616 := IntKind.wrap_u64 _
      have e2 : IntKind.u64.wrap size = size := by rw [IntKind.wrap_u64]; omega
      have Hga := hide hga
      have Hkb := hide hkb
      clear hga he heo hx hkb hG HR
      go_upto_region 6 with fail
      rw [unhide Hkb]
      cases store with
      | false =>
        have hgv := unhide Hga
        simp only [Bool.true_and, Bool.and_true, Bool.false_and, Bool.and_false, if_true, Bool.false_eq_true, if_false] at hgv
        have Hgv := hide hgv
        clear hgv Hga
        go_wp2
        exact ⟨⟨k + 1, by go_num, by omega, by rw [unhide Hgv, unhide Hx], unhide hG2⟩, by simp [intOf]; omega⟩
      | true =>
        cases placed with
        | false =>
          have hgv := unhide Hga
          simp only [Bool.true_and, Bool.and_true, Bool.false_and, Bool.and_false, if_true, Bool.false_eq_true, if_false] at hgv
          have Hgv := hide hgv
          clear hgv Hga
          go_wp2
          exact ⟨⟨k + 1, by go_num, by omega, by rw [unhide Hgv, unhide Hx], unhide hG2⟩, by simp [intOf]; omega⟩
        | true =>
          cases hc1 : decide (at_ ≤ a) with
          | false =>
            have hgv := unhide Hga
            simp only [Bool.true_and, Bool.and_true, Bool.false_and, Bool.and_false, hc1, if_true, Bool.false_eq_true, if_false] at hgv
            have Hgv := hide hgv
            clear hgv Hga
            go_wp2
            exact ⟨⟨k + 1, by go_num, by omega, by rw [unhide Hgv, unhide Hx], unhide hG2⟩, by simp [intOf]; omega⟩
          | true =>
            cases hc2 : decide ((a - at_) % 18446744073709551616 < size) with
            | false =>
              have hgv := unhide Hga
              simp only [Bool.true_and, Bool.and_true, Bool.false_and, Bool.and_false, hc1, hc2, if_true, Bool.false_eq_true, if_false] at hgv
              have Hgv := hide hgv
              clear hgv Hga
              go_wp2
              exact ⟨⟨k + 1, by go_num, by omega, by rw [unhide Hgv, unhide Hx], unhide hG2⟩, by simp [intOf]; omega⟩
            | true =>
              have hgv := unhide Hga
              simp only [Bool.true_and, Bool.and_true, Bool.false_and, Bool.and_false, hc1, hc2, if_true, Bool.false_eq_true, if_false] at hgv
              have Hgv := hide hgv
              clear hgv Hga
              go_wp2
              exact ⟨⟨k + 1, by go_num, by omega, by rw [unhide Hgv]; rfl, unhide hG2⟩, by simp [intOf]; omega⟩
    · obtain rfl : k = n := by omega
      go_wp2
      go_ret
      exact ⟨rfl, hG⟩
end
end Go.Proofs.Ytdmkgomcomcfhaa
