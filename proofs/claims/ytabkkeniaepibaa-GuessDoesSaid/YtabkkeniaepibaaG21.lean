/- Layer 18: every call answers as the chapter says: the walk. -/
import Derived.Test.YtabkkeniaepibaaG20
import Derived.Test.YtabkkeniaepibaaG10
namespace Go.Proofs.Ytabkkeniaepibaa
open Go.RowKit

section
variable {w0 w : World} {L : List HP} {b : Nat} {c : St}
theorem learnR_h (h : Heap w0 w (HP.rg b c :: L)) (pc kind : Int) (taken : Bool) (tgt : Int) (p0 : 0 ≤ pc) (p1 : pc < 18446744073709551616) (t0 : 0 ≤ tgt) (t1 : tgt < 18446744073709551616) :
    Calls Try.prog 13 #[.pointer (some ⟨b, 0, none⟩), .int .u64 pc, .int .i64 kind, .bool taken, .int .u64 tgt] w fun r w' => r = .returned (.tuple #[]) ∧ Heap w0 w' (HP.rg b (lSt c pc kind taken tgt) :: L) := by
  obtain ⟨g1, o1, c1, g2, o2, c2, A3, c3, g4, o4, c4, hI, hh⟩ := h.rgo
  exact learnR_k hh hI pc kind taken tgt p0 p1 t0 t1
theorem nextR_h (h : Heap w0 w (HP.rg b c :: L)) (pc size : Int) (p0 : 0 ≤ pc) (p1 : pc < 18446744073709551616) :
    Calls Try.prog 15 #[.pointer (some ⟨b, 0, none⟩), .int .u64 pc, .int .i64 size] w fun r w' => r = .returned (.int .u64 (nOut c pc size)) ∧ Heap w0 w' (HP.rg b (nSt c pc size) :: L) := by
  obtain ⟨g1, o1, c1, g2, o2, c2, A3, c3, g4, o4, c4, hI, hh⟩ := h.rgo
  exact nextR_k hh hI pc size p0 p1
theorem backR_h (h : Heap w0 w (HP.rg b c :: L)) {m0 m1 m2 m3 sz hs : Int} (b0 : 0 ≤ m0 ∧ m0 < 18446744073709551616) (b1 : 0 ≤ m1 ∧ m1 < 18446744073709551616) (b2 : 0 ≤ m2 ∧ m2 < 18446744073709551616) (b3 : 0 ≤ m3 ∧ m3 < 18446744073709551616) (b4 : 0 ≤ hs ∧ hs < 18446744073709551616) :
    Calls Try.prog 18 #[.pointer (some ⟨b, 0, none⟩), .agg #[.int .u64 m0, .int .u64 m1, .int .u64 m2, .int .u64 m3], .int .i64 sz, .int .u64 hs] w fun r w' => r = .returned (.tuple #[]) ∧ Heap w0 w' (HP.rg b (backS c (m4 m0 m1 m2 m3) sz hs) :: L) := by
  obtain ⟨g1, o1, c1, g2, o2, c2, A3, c3, g4, o4, c4, hI, hh⟩ := h.rgo
  exact backR_k hh hI m0 m1 m2 m3 sz hs b4.1 b4.2 (m4_bd b0 b1 b2 b3)
end
set_option maxRecDepth 100000 in
set_option maxHeartbeats 8000000 in
theorem does_walk (seed : Int) (s0 : 0 ≤ seed) (s1 : seed < 18446744073709551616) (A : Option Addr) (n cap : Nat) (w : World) (hS : SlArg [some .i64, some .u64, some .u64, some .i64, none] w A n) (hn : n ≤ 4398046511104) :
    Calls Try.prog 3 #[.int .u64 seed, .slice A n cap] w fun e w' => e = .returned (.bool true) ∧ Below w.heap.size w w' := by
  have HS := hide hS
  clear hS
  go_enter Try.func3, Try.ntmps3
  go_wp2_with fail
  refine (fixed_h (Heap.nil w)).mono ?_
  rintro r w1 ⟨rfl, h1⟩
  go_wp2_with fail
  refine (new_h h1 seed s0 s1).mono ?_
  rintro r w2 ⟨b, rfl, h2⟩
  go_wp2_with fail
  refine (newR_h h2 seed s0 s1).mono ?_
  rintro r w3 ⟨br, rfl, h3⟩
  go_wp2_with fail
  refine (mark_h h3.f2).mono ?_
  rintro r w4 ⟨rfl, h4⟩
  have hMk := mk_bd h4.ggI
  have h5 := (h4.new (mkv (c0 seed)) 31).b3
  obtain ⟨bm, hbm⟩ : ∃ bm, w4.heap.size = bm := ⟨_, rfl⟩
  rw [hbm] at h5
  unfold mkv at h5 ⊢
  generalize c0 seed = d at *
  clear h1 h2 h3 h4
  go_wp2
  go_loopw [8, 5, 6] (fun i gp rp wr => ∃ (k b br : Nat) (c : St) (m0 m1 m2 m3 m5 m6 : Int), i = .int .i64 k ∧ k ≤ n ∧ gp = .pointer (some ⟨b, 0, none⟩) ∧ rp = .pointer (some ⟨br, 0, none⟩) ∧ MkB m0 m1 m2 m3 m5 m6 ∧ Heap w wr [HP.gg b c, HP.rg br c, HP.blk bm #[.int .u64 m0, .int .u64 m1, .int .u64 m2, .int .u64 m3, .int .i64 m5, .int .u64 m6] 31]) (fun i _ _ _ => n - (intOf i).toNat)
  case atStart => exact ⟨0, b, br, d, _, _, _, _, _, _, rfl, Nat.zero_le _, rfl, rfl, hMk, h5⟩
  case round =>
    obtain ⟨k, b, br, c, m0, m1, m2, m3, m5, m6, rfl, hk, rfl, rfl, hM, hJ⟩ := hrel
    clear h5 hMk
    have HM := hide hM
    by_cases hlt : k < n
    · obtain ⟨ab, ao, rfl, kd, pc', tgt, sz, tk, ⟨x0, x1, x2, x3, x4⟩, ⟨y0, y1⟩, ⟨t0, t1⟩, hszb, hab⟩ := step_at (unhide HS) hJ.below hlt
      have J := (hJ.new #[.int .i64 kd, .int .u64 pc', .int .u64 tgt, .int .i64 sz, .bool tk] 34).b4
      obtain ⟨xb, hxb⟩ : ∃ xb, wr.heap.size = xb := ⟨_, rfl⟩
      rw [hxb] at J
      obtain ⟨wx, hwx⟩ : ∃ wx, wr.alloc (.cells #[.int .i64 kd, .int .u64 pc', .int .u64 tgt, .int .i64 sz, .bool tk] 34) = wx := ⟨_, rfl⟩
      rw [hwx] at J
      clear hJ
      by_cases q0 : kd = 0
      · subst q0
        have cM := cells6 J.f3.heap
        have hml := lt_of_heap' J.f3.heap
        have c5 := cells5 J.f4.heap
        have hxl := lt_of_heap' J.f4.heap
        go_wp2_with fail
        refine (learn_h J pc' sz tk tgt y0 y1 t0 t1).mono ?_
        rintro r w5 ⟨rfl, h5⟩
        clear cM hml c5 hxl
        have cM := cells6 h5.f3.heap
        have hml := lt_of_heap' h5.f3.heap
        have c5 := cells5 h5.f4.heap
        have hxl := lt_of_heap' h5.f4.heap
        go_wp2_with fail
        refine (learnR_h h5.f2 pc' sz tk tgt y0 y1 t0 t1).mono ?_
        rintro r w6 ⟨rfl, h6⟩
        clear cM hml c5 hxl
        clear J h5
        go_wp2
        exact ⟨⟨k + 1, b, br, _, m0, m1, m2, m3, m5, m6, by go_num, by omega, rfl, rfl, unhide HM, h6.f2.three⟩, by simp [intOf]; omega⟩
      · have z0 : (kd == 0) = false := beq_eq_false_iff_ne.2 q0
        by_cases q1 : kd = 1
        · subst q1
          have cM := cells6 J.f3.heap
          have hml := lt_of_heap' J.f3.heap
          have c5 := cells5 J.f4.heap
          have hxl := lt_of_heap' J.f4.heap
          go_wp2_with fail
          refine (next_h J pc' sz y0 y1).mono ?_
          rintro r w5 ⟨rfl, h5⟩
          clear cM hml c5 hxl
          have cM := cells6 h5.f3.heap
          have hml := lt_of_heap' h5.f3.heap
          have c5 := cells5 h5.f4.heap
          have hxl := lt_of_heap' h5.f4.heap
          go_wp2_with fail
          refine (nextR_h h5.f2 pc' sz y0 y1).mono ?_
          rintro r w6 ⟨rfl, h6⟩
          clear cM hml c5 hxl
          clear J h5
          generalize nOut c pc' sz = y at *
          have hz : (y != y) = false := by simp
          go_wp2
          exact ⟨⟨k + 1, b, br, _, m0, m1, m2, m3, m5, m6, by go_num, by omega, rfl, rfl, unhide HM, h6.f2.three⟩, by simp [intOf]; omega⟩
        · have z1 : (kd == 1) = false := beq_eq_false_iff_ne.2 q1
          by_cases q2 : kd = 2
          · subst q2
            have cM := cells6 J.f3.heap
            have hml := lt_of_heap' J.f3.heap
            have c5 := cells5 J.f4.heap
            have hxl := lt_of_heap' J.f4.heap
            go_wp2_with fail
            refine (mark_h J).mono ?_
            rintro r w5 ⟨rfl, h5⟩
            clear cM hml c5 hxl
            have hMk := mk_bd h5.ggI
            have HMk := hide hMk
            clear hMk
            go_wp2_with (refine wpList_store_mid rfl 31 _ _ rfl bm 0 (mkv c) rfl rfl ?_ (by kernel_rfl) (by kernel_rfl) ?_
                         rotate_left
                         refine unhide ?_)
            rotate_left
            · exact there_blk (xs := [.int .u64 m0, .int .u64 m1, .int .u64 m2, .int .u64 m3, .int .i64 m5, .int .u64 m6]) h5.f3.heap (by simp [mkv])
            have h6 : Heap w (w5.setCells bm 0 (mkv c).toList) _ := (h5.f3.sets (xs := [.int .u64 m0, .int .u64 m1, .int .u64 m2, .int .u64 m3, .int .i64 m5, .int .u64 m6]) (mkv c).toList 0).f3.f3
            have h6 : Heap w (w5.setCells bm 0 (mkv c).toList) [HP.gg b c, HP.rg br c, HP.blk bm (mkv c) 31, HP.blk xb #[.int .i64 2, .int .u64 pc', .int .u64 tgt, .int .i64 sz, .bool tk] 34] := h6
            generalize w5.setCells bm 0 (mkv c).toList = w6 at *
            refine hide ?_
            clear J h5
            have Hmk : Hid (mkv c = #[.int .u64 (c 112), .int .u64 (c 113), .int .u64 (c 114), .int .u64 (c 115), .int .i64 (c 116), .int .u64 (c 117)]) := hide rfl
            have hsm := @sameMark_h w w6 [HP.gg b c, HP.blk bm (mkv c) 31, HP.blk xb #[.int .i64 2, .int .u64 pc', .int .u64 tgt, .int .i64 sz, .bool tk] 34] br c h6.f2
            rw [unhide Hmk] at h6 hsm
            have Hsm := hide hsm
            clear hsm
            have cM := cells6 h6.f3.heap
            have hml := lt_of_heap' h6.f3.heap
            have c5 := cells5 h6.f4.heap
            have hxl := lt_of_heap' h6.f4.heap
            go_wp2_with fail
            refine (unhide Hsm).mono ?_
            rintro r w7 ⟨rfl, h7⟩
            clear cM hml c5 hxl
            clear h6 Hsm Hmk
            go_wp2
            exact ⟨⟨k + 1, b, br, _, _, _, _, _, _, _, by go_num, by omega, rfl, rfl, unhide HMk, h7.f2.three⟩, by simp [intOf]; omega⟩
          · have z2 : (kd == 2) = false := beq_eq_false_iff_ne.2 q2
            by_cases q3 : kd = 3
            · subst q3
              have cM := cells6 J.f3.heap
              have hml := lt_of_heap' J.f3.heap
              have c5 := cells5 J.f4.heap
              have hxl := lt_of_heap' J.f4.heap
              go_wp2_with fail
              refine (back_h J hM.1 hM.2 hM.3 hM.4 hM.6.1 hM.6.2).mono ?_
              rintro r w5 ⟨rfl, h5⟩
              clear cM hml c5 hxl
              have cM := cells6 h5.f3.heap
              have hml := lt_of_heap' h5.f3.heap
              have c5 := cells5 h5.f4.heap
              have hxl := lt_of_heap' h5.f4.heap
              go_wp2_with fail
              refine (backR_h h5.f2 hM.1 hM.2 hM.3 hM.4 hM.6).mono ?_
              rintro r w6 ⟨rfl, h6⟩
              clear cM hml c5 hxl
              clear J h5
              go_wp2
              exact ⟨⟨k + 1, b, br, _, m0, m1, m2, m3, m5, m6, by go_num, by omega, rfl, rfl, hM, h6.f2.three⟩, by simp [intOf]; omega⟩
            · have z3 : (kd == 3) = false := beq_eq_false_iff_ne.2 q3
              by_cases q4 : kd = 4
              · subst q4
                have cM := cells6 J.f3.heap
                have hml := lt_of_heap' J.f3.heap
                have c5 := cells5 J.f4.heap
                have hxl := lt_of_heap' J.f4.heap
                have J5 := J.new #[.int .u64 pc', .int .u64 tgt, .int .u64 7, .int .u64 pc', .int .i64 sz, .int .u64 tgt] 31
                obtain ⟨kb, hkb⟩ : ∃ kb, wx.heap.size = kb := ⟨_, rfl⟩
                rw [hkb] at J5
                go_wp2_with fail
                refine (back_h (J5.f2) ⟨y0, y1⟩ ⟨t0, t1⟩ (by decide) ⟨y0, y1⟩ t0 t1).mono ?_
                rintro r w5 ⟨rfl, h5⟩
                clear J J5
                clear cM hml c5 hxl
                have cK := cells6 h5.f2.heap
                have hkl := lt_of_heap' h5.f2.heap
                have cM := cells6 h5.f4.heap
                have hml := lt_of_heap' h5.f4.heap
                have c5 := cells5 h5.f5.heap
                have hxl := lt_of_heap' h5.f5.heap
                go_wp2_with fail
                refine (backR_h h5.f3 ⟨y0, y1⟩ ⟨t0, t1⟩ (by decide) ⟨y0, y1⟩ ⟨t0, t1⟩).mono ?_
                rintro r w6 ⟨rfl, h6⟩
                clear cM hml c5 hxl
                clear h5 cK hkl hkb
                go_wp2
                exact ⟨⟨k + 1, b, br, _, m0, m1, m2, m3, m5, m6, by go_num, by omega, rfl, rfl, unhide HM, h6.f3.tail.f2.three⟩, by simp [intOf]; omega⟩
              · have z4 : (kd == 4) = false := beq_eq_false_iff_ne.2 q4
                by_cases q5 : kd = 5
                · subst q5
                  have cM := cells6 J.f3.heap
                  have hml := lt_of_heap' J.f3.heap
                  have c5 := cells5 J.f4.heap
                  have hxl := lt_of_heap' J.f4.heap
                  go_wp2_with fail
                  refine (copy_h J).mono ?_
                  rintro r w5 ⟨b', rfl, h5⟩
                  clear cM hml c5 hxl
                  have cM := cells6 h5.f4.heap
                  have hml := lt_of_heap' h5.f4.heap
                  have c5 := cells5 h5.f5.heap
                  have hxl := lt_of_heap' h5.f5.heap
                  go_wp2_with fail
                  refine (copyR_h h5.f3).mono ?_
                  rintro r w6 ⟨br', rfl, h6⟩
                  clear cM hml c5 hxl
                  clear J h5
                  have h6 := h6.f4
                  have cM := cells6 h6.f5.heap
                  have hml := lt_of_heap' h6.f5.heap
                  have c5 := cells5 h6.f6.heap
                  have hxl := lt_of_heap' h6.f6.heap
                  go_wp2_with fail
                  refine (learn_h h6 pc' 1 tk tgt y0 y1 t0 t1).mono ?_
                  rintro r w7 ⟨rfl, h7⟩
                  clear cM hml c5 hxl
                  have cM := cells6 h7.f5.heap
                  have hml := lt_of_heap' h7.f5.heap
                  have c5 := cells5 h7.f6.heap
                  have hxl := lt_of_heap' h7.f6.heap
                  go_wp2_with fail
                  refine (learn_h h7 pc' 3 true tgt y0 y1 t0 t1).mono ?_
                  rintro r w8 ⟨rfl, h8⟩
                  clear cM hml c5 hxl
                  have cM := cells6 h8.f5.heap
                  have hml := lt_of_heap' h8.f5.heap
                  have c5 := cells5 h8.f6.heap
                  have hxl := lt_of_heap' h8.f6.heap
                  go_wp2_with fail
                  refine (next_h h8 pc' 4 y0 y1).mono ?_
                  rintro r w9 ⟨rfl, h9⟩
                  clear cM hml c5 hxl
                  clear h6 h7 h8
                  go_wp2
                  exact ⟨⟨k + 1, b', br', _, m0, m1, m2, m3, m5, m6, by go_num, by omega, rfl, rfl, unhide HM, h9.tail.f2.tail.f2.three⟩, by simp [intOf]; omega⟩
                · have z5 : (kd == 5) = false := beq_eq_false_iff_ne.2 q5
                  have cM := cells6 J.f3.heap
                  have hml := lt_of_heap' J.f3.heap
                  have c5 := cells5 J.f4.heap
                  have hxl := lt_of_heap' J.f4.heap
                  go_wp2_with fail
                  refine (counters_h J).mono ?_
                  rintro r w5 ⟨rfl, h5⟩
                  clear cM hml c5 hxl
                  have cM := cells6 h5.f3.heap
                  have hml := lt_of_heap' h5.f3.heap
                  have c5 := cells5 h5.f4.heap
                  have hxl := lt_of_heap' h5.f4.heap
                  go_wp2_with fail
                  refine (countersR_h h5.f2).mono ?_
                  rintro r w6 ⟨v, rfl, h6⟩
                  clear cM hml c5 hxl
                  clear J h5
                  have hI6 := h6.f2.rgI
                  have cM := cells6 h6.f4.heap
                  have hml := lt_of_heap' h6.f4.heap
                  have c5 := cells5 h6.f5.heap
                  have hxl := lt_of_heap' h6.f5.heap
                  go_wp2_with fail
                  refine (sameCounters_h h6 hI6).mono ?_
                  rintro r w7 ⟨rfl, h7⟩
                  clear cM hml c5 hxl
                  clear h6
                  go_wp2
                  exact ⟨⟨k + 1, b, br, _, m0, m1, m2, m3, m5, m6, by go_num, by omega, rfl, rfl, unhide HM, h7.tail.f2.three⟩, by simp [intOf]; omega⟩
    · obtain rfl : k = n := by omega
      have cM := cells6 hJ.f3.heap
      go_wp2_with fail
      refine (mark_h hJ).mono ?_
      rintro r w5 ⟨rfl, h5⟩
      go_wp2_with fail
      refine (sameMark_h h5.f2).mono ?_
      rintro r w6 ⟨rfl, h6⟩
      clear h5 hJ cM
      go_wp2_with fail
      refine (counters_h h6.f2).mono ?_
      rintro r w7 ⟨rfl, h7⟩
      go_wp2_with fail
      refine (countersR_h h7.f2).mono ?_
      rintro r w8 ⟨v, rfl, h8⟩
      have hI8 := h8.f2.rgI
      go_wp2_with fail
      refine (sameCounters_h h8 hI8).mono ?_
      rintro r w9 ⟨rfl, h9⟩
      clear h6 h7 h8
      go_wp2
      go_ret
      exact ⟨rfl, h9.below⟩
end Go.Proofs.Ytabkkeniaepibaa
