/- Layer 15: every call answers as the chapter says: the walk. -/
import Derived.Test.YtlkkmpfhhfaioaaT18
namespace Go.Proofs.Ytlkkmpfhhfaioaa
open Go.RowKit

set_option maxRecDepth 100000 in
set_option maxHeartbeats 4000000 in
theorem does_walk (seed : Int) (s0 : 0 ≤ seed) (s1 : seed < 18446744073709551616) (A : Option Addr) (n cap : Nat) (w : World) (hS : SlArg [some .i64, some .u64, some .i64, some .u64, none, some .u64] w A n) (hn : n ≤ 4398046511104) :
    Calls Try.prog 3 #[.int .u64 seed, .slice A n cap] w fun e w' => e = .returned (.bool true) ∧ Below w.heap.size w w' := by
  have HS := hide hS
  clear hS
  go_enter Try.func3, Try.ntmps3
  go_wp2_with fail
  refine (fixed_h (Heap.nil w)).mono ?_
  rintro r w1 ⟨rfl, h1⟩
  go_wp2_with fail
  refine (new_h h1 s0 s1).mono ?_
  rintro r w2 ⟨b0, rfl, h2⟩
  clear h1
  go_wp2_with fail
  refine (newR_h h2 s0 s1).mono ?_
  rintro r w3 ⟨r0, rfl, h3⟩
  have h3 := h3.f2
  clear h2
  go_wp2
  go_loopw [5, 6, 7] (fun t u i wr => ∃ (k b br : Nat) (sd : Int) (S : Slots), i = .int .i64 k ∧ k ≤ n ∧ t = .pointer (some ⟨b, 0, none⟩) ∧ u = .pointer (some ⟨br, 0, none⟩) ∧ Heap w wr [HP.tl b sd S, HP.tr br sd S]) (fun _ _ i _ => n - (intOf i).toNat)
  case atStart => exact ⟨0, b0, r0, seed, S0, rfl, Nat.zero_le _, rfl, rfl, h3⟩
  case round =>
    obtain ⟨k, b, br, sd, S, rfl, hk, rfl, rfl, hJ⟩ := hrel
    clear h3
    by_cases hlt : k < n
    · obtain ⟨ab, ao, rfl, kd, at_, lv, sp, gl, lf, ⟨x0, x1, x2, x3, x4, x5⟩, hwf, hab⟩ := step_at (unhide HS) hJ.below hlt
      have J1 := hJ.new #[.int .i64 kd, .int .u64 at_, .int .i64 lv, .int .u64 sp, .bool gl, .int .u64 lf] 30
      have c6 := cells6 J1.heap
      have hxl := lt_of_heap' J1.heap
      by_cases q0 : kd = 0
      · subst q0
        -- put
        go_wp2_with fail
        refine (entry_any 0 at_ lv sp gl lf _).mono ?_
        rintro r _ ⟨rfl, hg⟩
        have J1 := J1.grown hg
        clear hg
        go_wp2_with fail
        refine (put_h (e := (⟨at_, lv, sp, gl, lf⟩ : E)) J1.f2 hwf).mono ?_
        rintro r w5 ⟨rfl, h5⟩
        have h5 := h5.f2
        clear J1 c6
        have c6 := cells6 h5.heap
        have hxl := lt_of_heap' h5.heap
        generalize hq : (!bad (⟨at_, lv, sp, gl, lf⟩ : E)) = q
        go_wp2_with fail
        refine (entry_any 0 at_ lv sp gl lf _).mono ?_
        rintro r _ ⟨rfl, hg⟩
        have h5 := h5.grown hg
        clear hg
        go_wp2_with fail
        refine (putR_h (e := (⟨at_, lv, sp, gl, lf⟩ : E)) h5.f3 hwf).mono ?_
        rintro r w6 ⟨rfl, h6⟩
        rw [hq]
        have h6 := h6.f3.two
        clear h5 c6 hq
        go_wp2
        exact ⟨⟨k + 1, b, br, _, _, by go_num, by omega, rfl, rfl, h6⟩, by simp [intOf]; omega⟩
      · by_cases q1 : kd = 1
        · subst q1
          go_wp2_with fail
          refine (find_f J1.f2 sp at_ hwf.a0 hwf.a1).mono ?_
          rintro r w5 ⟨rfl, h5⟩
          have hfo := fnd_ok h5.tlInv sp at_
          obtain ⟨f, hfq⟩ : ∃ f, fnd S sp at_ = f := ⟨_, rfl⟩
          obtain ⟨q, hqq⟩ : ∃ q, (findS S sp at_).isSome = q := ⟨_, rfl⟩
          rw [hfq] at hfo
          rw [hfq, hqq]
          have h5 := h5.new #[.int .u64 f.at_, .int .i64 f.lv, .int .u64 f.sp, .bool f.gl, .int .u64 f.lf] 33
          have c6 := cells6 h5.f3.heap
          have hxl := lt_of_heap' h5.f3.heap
          clear J1
          go_wp2_with fail
          refine (findR_f' h5.f4 sp at_ hwf.a0 hwf.a1 hfq hqq).mono ?_
          rintro r w6 ⟨rfl, h6⟩
          have h7 := h6.new #[.int .u64 f.at_, .int .i64 f.lv, .int .u64 f.sp, .bool f.gl, .int .u64 f.lf] 36
          have cF := cells5 h7.f3.heap
          have cG := cells5 h7.heap
          have hfl := lt_of_heap' h7.f3.heap
          have heq := eq36 f hfo
          clear c6 h5 hfq hqq
          go_wp2
          exact ⟨⟨k + 1, b, br, _, _, by go_num, by omega, rfl, rfl, h7.tail.f3.two⟩, by simp [intOf]; omega⟩
        · by_cases q2 : kd = 2
          · subst q2
            go_wp2_with fail
            refine (fence_h J1.f2 _ at_ _ sp hwf.a0 hwf.a1).mono ?_
            rintro r w5 ⟨rfl, h5⟩
            have h5 := h5.f2
            clear J1 c6
            have c6 := cells6 h5.heap
            have hxl := lt_of_heap' h5.heap
            go_wp2_with fail
            refine (fenceR_h h5.f3 _ at_ _ sp hwf.a0 hwf.a1).mono ?_
            rintro r w6 ⟨rfl, h6⟩
            have h6 := h6.f3.two
            clear h5 c6
            go_wp2
            exact ⟨⟨k + 1, b, br, _, _, by go_num, by omega, rfl, rfl, h6⟩, by simp [intOf]; omega⟩
          · by_cases q3 : kd = 3
            · subst q3
              go_wp2_with fail
              refine (copy_h J1.f2).mono ?_
              rintro r w5 ⟨b', rfl, h5⟩
              go_wp2_with fail
              refine (copyR_h h5.f4).mono ?_
              rintro r w6 ⟨br', rfl, h6⟩
              have h6 := h6.f2.tail.f3
              clear h5 J1 c6
              have c6 := cells6 h6.f4.heap
              have hxl := lt_of_heap' h6.f4.heap
              go_wp2_with fail
              refine (entry_any 3 at_ lv sp gl lf _).mono ?_
              rintro r _ ⟨rfl, hg⟩
              have h6 := h6.grown hg
              clear hg
              go_wp2_with fail
              refine (put_h (e := (⟨at_, lv, sp, gl, lf⟩ : E)) h6 hwf).mono ?_
              rintro r w7 ⟨rfl, h7⟩
              clear h6 c6
              go_wp2_with fail
              refine (fence_h h7 false 0 false 0 (by decide) (by decide)).mono ?_
              rintro r w8 ⟨rfl, h8⟩
              have h8 := h8.f3.f2.tail.two
              clear h7
              go_wp2
              exact ⟨⟨k + 1, b', br', _, _, by go_num, by omega, rfl, rfl, h8⟩, by simp [intOf]; omega⟩
            · have z0 : (kd == 0) = false := beq_eq_false_iff_ne.2 q0
              have z1 : (kd == 1) = false := beq_eq_false_iff_ne.2 q1
              have z2 : (kd == 2) = false := beq_eq_false_iff_ne.2 q2
              have z3 : (kd == 3) = false := beq_eq_false_iff_ne.2 q3
              go_wp2_with fail
              refine (all_h J1.f2).mono ?_
              rintro r w5 ⟨v, rfl, h5⟩
              go_wp2_with fail
              refine (allR_h h5.f4).mono ?_
              rintro r w6 ⟨v', rfl, h6⟩
              have hI := hJ.tlInv
              have hs := same_any h6.f3.slw h6.slw (kept_ok hI 8) (by have := kept_len S 8; omega)
              have hm8 := kept_len S 8
              generalize (kept S 8).length = m at *
              generalize ecs (kept S 8) = ys at *
              obtain ⟨A2, cap2, rfl, hcap2⟩ := h6.f3.slw.parts
              have h6 := hide h6
              clear h5 J1 c6
              go_wp2_with fail
              refine hs.mono ?_
              rintro r w7 ⟨rfl, hg7⟩
              have h7 := ((unhide h6).grown hg7).tail.f3.f3.three
              clear h6 hs hg7
              go_wp2
              go_loopw [18] (fun i2 wr2 => ∃ (j : Nat) (zs : List Value), i2 = .int .i64 j ∧ j ≤ m ∧ Heap w wr2 [HP.slw (.slice A2 m cap2) 5 m zs, HP.tl b sd S, HP.tr br sd S]) (fun i2 _ => m - (intOf i2).toNat)
              case atStart => exact ⟨0, ys, rfl, Nat.zero_le _, h7⟩
              case round =>
                obtain ⟨j, zs, rfl, hj, hK⟩ := hrel
                clear h7
                by_cases hjm : j < m
                · obtain ⟨g, o, _, hv, _⟩ := hK.slw.addr (by omega)
                  injection hv with hv _ hv2
                  subst hv
                  subst hv2
                  have hgl := (hK.slw.at_ (j := 0) (by omega)).1
                  have hth : ∀ wq, Sl wq 5 (.slice (some ⟨g, o, none⟩) m cap2) m zs → wq.there g (o + j * 5) 5 := fun wq hq i hi => by
                    obtain ⟨_, e1, e2⟩ := hq.at_ (j := j * 5 + i) (by omega)
                    rw [← Nat.add_assoc] at e1 e2
                    have hl := hq.len
                    exact ⟨by rw [e1, List.getElem?_eq_getElem (by omega)]; rfl, e2⟩
                  have Hth := hide (hth _ hK.slw)
                  clear hth
                  go_wp2_with (refine wpList_store_mid rfl 33 _ _ rfl g (o + j * 5) #[.int .u64 77, .int .i64 0, .int .u64 0, .bool false, .int .u64 0] rfl rfl ?_ (by kernel_rfl) (by kernel_rfl) ?_
                               rotate_left
                               refine unhide ?_)
                  rotate_left
                  · exact unhide Hth
                  have hW := hK.writes [.int .u64 77, .int .i64 0, .int .u64 0, .bool false, .int .u64 0] (j := j * 5) (by show j * 5 + 5 ≤ m * 5; omega)
                  change Hid (wpList _ _ _ _ _ (wr.setCells g (o + j * 5) [.int .u64 77, .int .i64 0, .int .u64 0, .bool false, .int .u64 0]))
                  generalize wr.setCells g (o + j * 5) [.int .u64 77, .int .i64 0, .int .u64 0, .bool false, .int .u64 0] = w8 at *
                  refine hide ?_
                  clear Hth hK
                  go_wp2
                  exact ⟨⟨j + 1, _, by go_num, by omega, hW⟩, by simp [intOf]; omega⟩
                · obtain rfl : j = m := by omega
                  obtain ⟨i0, hi, hz0, hz1, hz2⟩ := info_parts info33
                  have hone := cs_one E.zero
                  go_wp2_with (at_builtin; refine wpList_append_sl rfl _ _ 44 rfl 33 i0 _ 5 40 Try.underlying44 hi hz0 hz1 hz2 rfl rfl rfl (hK.slw.alloc _) (Sl.five _ 33 E.zero (by simp)) hone (by omega) (by omega) ?_; intro v' w' hsl hgr hblk hsp)
                  have hK2 := ((hK.alloc _).appendw hsl hgr hblk).tail
                  clear hsl hgr hblk hK
                  go_wp2
                  exact ⟨⟨k + 1, b, br, _, _, by go_num, by omega, rfl, rfl, hK2⟩, by simp [intOf]; omega⟩
    · obtain rfl : k = n := by omega
      go_wp2_with fail
      refine (all_h hJ).mono ?_
      rintro r w4 ⟨v, rfl, h4⟩
      go_wp2_with fail
      refine (allR_h h4.f3).mono ?_
      rintro r w5 ⟨v', rfl, h5⟩
      have hI := hJ.tlInv
      have h6 := same_any h5.f3.slw h5.slw (kept_ok hI 8) (by have := kept_len S 8; omega)
      have h5 := hide h5
      clear h4
      go_wp2_with fail
      refine h6.mono ?_
      rintro r w6 ⟨rfl, hg6⟩
      go_wp2
      go_ret
      exact ⟨rfl, ((unhide h5).grown hg6).below⟩
end Go.Proofs.Ytlkkmpfhhfaioaa
