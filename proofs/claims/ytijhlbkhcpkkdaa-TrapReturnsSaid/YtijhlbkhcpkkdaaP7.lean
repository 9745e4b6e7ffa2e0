/- Layer 13: a handler begins with nothing to be taken: the walk. -/
import Derived.Test.YtijhlbkhcpkkdaaP6
namespace Go.Proofs.Ytijhlbkhcpkkdaa
open Go.RowKit

set_option maxRecDepth 100000 in
set_option maxHeartbeats 2000000 in
theorem quiet_walk (c : St) (hI : GI c) (mode pc cause tval lines : Int) (p0 : 0 ≤ pc) (p1 : pc < 18446744073709551616) (c0 : 0 ≤ cause) (c1 : cause < 18446744073709551616) (t0 : 0 ≤ tval) (t1 : tval < 18446744073709551616) (l0 : 0 ≤ lines) (l1 : lines < 18446744073709551616) (w : World) :
    Calls Try.prog 6 #[.agg (gl c).toArray, .int .i64 mode, .int .u64 pc, .int .u64 cause, .int .u64 tval, .int .u64 lines] w fun e w' => e = .returned (.bool true) ∧ Below w.heap.size w w' := by
  have J0 := (Heap.nil w).new (gl c).toArray 26
  obtain ⟨b0, hb0⟩ : ∃ b, w.heap.size = b := ⟨_, rfl⟩
  have hz := zero26
  obtain ⟨m0, m1⟩ := hI.r 0 (by omega)
  go_enter Try.func6, Try.ntmps6
  go_wp2_with fail
  refine (awake_h J0).mono ?_
  rintro r w1 ⟨rfl, h1⟩
  rw [hb0] at h1
  clear J0
  have hlt1 := lt_of_heap' h1.heap
  have hr1 := range_blk h1.heap 0 38 (gl c) (by rw [List.drop_zero]; exact List.take_of_length_le (by rw [gl_len]; exact Nat.le_refl _))
  go_wp2_with (refine wpList_load_mid rfl 26 (.tmp 6) rfl b0 0 rfl (gl c) _ hr1 Try.underlying26 rfl (by rw [gl_len]; exact isz26) ?_
               refine unhide ?_)
  refine hide ?_
  clear hr1

  go_wp2_with fail
  refine (enter_h h1 hI mode pc cause tval p0 p1 c0 c1 t0 t1).mono ?_
  rintro r w2 ⟨hr, h2⟩
  clear hlt1
  rcases hr with ⟨hs, rfl⟩ | ⟨hs, rfl⟩
  · have hk := sup_k hs
    have hdI := eSup_inv hI (pc := pc) (cause := cause) (tval := tval) hk p0 p1 c0 c1 t0 t1
    have hd0 : bits .and .u64 (eSup c (known mode) pc cause tval 0) 2 = 0 := mSup_2 (c 0) (known mode) m0 m1 hk
    clear hs hk
    generalize eSup c (known mode) pc cause tval = d at *
    generalize vector (c 14) cause = at_ at *
    go_wp2_with (refine wpList_store_mid rfl 26 (.tmp 13) (.tmp 27) rfl w2.heap.size 0 (gl d).toArray rfl rfl ?_ (by rw [List.size_toArray, gl_len]; exact isz26) (gl_one _) ?_
                 rotate_left
                 refine unhide ?_)
    rotate_left
    · exact there_new _ _ _ (by rw [List.size_toArray, List.size_toArray, gl_len, gl_len])
    have h3 := h2.clone (gl Z0).toArray 26 (gl d) (by rw [List.size_toArray, gl_len, gl_len])
    change Hid (wpList _ _ _ _ _ (((w2.alloc (.cells (gl Z0).toArray 26)).setCells w2.heap.size 0 (gl d))))
    generalize (w2.alloc (.cells (gl Z0).toArray 26)).setCells w2.heap.size 0 (gl d) = w2s at *
    generalize w2.heap.size = bd at *
    refine hide ?_
    have hlt3 := lt_of_heap' h3.heap
    have hr3 := range_blk h3.heap 0 38 (gl d) (by rw [List.drop_zero]; exact List.take_of_length_le (by rw [gl_len]; exact Nat.le_refl _))
    go_wp2_with (refine wpList_load_mid rfl 26 (.tmp 13) rfl bd 0 rfl (gl d) _ hr3 Try.underlying26 rfl (by rw [gl_len]; exact isz26) ?_
                 refine unhide ?_)
    refine hide ?_
    clear hr3
    go_wp2_with fail
    refine (pending_h h3 hdI 1 lines l0 l1).mono ?_
    rintro r w4 ⟨rfl, h4⟩
    have hpg : pg d 1 lines = 0 := by unfold pg; rw [if_pos (.inr ⟨rfl, hd0⟩)]
    have hpk : pk d 1 lines = bits .andNot .u64 (pp d lines) (d 3) := by unfold pk; rw [if_neg (fun h => absurd h.1 (by decide))]
    have hpe : pend (pk d 1 lines) (pg d 1 lines) = firstIn (bits .andNot .u64 (pp d lines) (d 3)) := by
      unfold pend
      rw [hpg, hpk, show firstIn 0 = none from by decide, Option.or_none]
    rw [hpe]
    have hpb := pp_bd hdI l0 l1
    obtain ⟨q0, q1⟩ := hdI.r 3 (by omega)
    have hkn := fun n => kept_not (n := n) hpb.1 hpb.2 q0 q1
    have hlt4 := lt_of_heap' h4.heap
    have x3 := (gcell h4.heap (i := 3) (by omega)).1
    rw [show gk 3 = .u64 from rfl] at x3
    clear hpe hpg hpk hd0
    cases hf : firstIn (bits .andNot .u64 (pp d lines) (d 3)) with
    | none =>
      clear hkn hf
      have e1 : pVal none = 0 := rfl
      have e2 : (none : Option Nat).isSome = false := rfl
      rw [e1, e2]
      clear e1 e2
      go_wp2
      go_ret
      exact ⟨rfl, h4.below⟩
    | some n =>
      obtain ⟨hn, hz⟩ := hkn n hf
      have hm : n = 11 ∨ n = 3 ∨ n = 7 ∨ n = 9 ∨ n = 1 ∨ n = 5 := by
        have h2 := List.mem_of_find?_eq_some hf
        simpa using h2
      clear hkn hf hn
      have e2 : (some n).isSome = true := rfl
      rw [e2]
      clear e2
      generalize d 3 = x at *
      rcases hm with rfl | rfl | rfl | rfl | rfl | rfl
      · have hv : pVal (some 11) = 9223372036854775819 := by decide
        have e63 : bits .and .u64 9223372036854775819 63 = 11 := by decide
        have hx : 0 ≤ x / 2048 ∧ x / 2048 < 18446744073709551616 := by omega
        have e1 := u64_mask1 (x / 2048) hx.1 hx.2
        have hz2 : x / 2048 % 2 = 0 := hz
        rw [hz2] at e1
        rw [hv]
        clear hv hz hz2
        go_wp2
        go_ret
        exact ⟨rfl, h4.below⟩
      · have hv : pVal (some 3) = 9223372036854775811 := by decide
        have e63 : bits .and .u64 9223372036854775811 63 = 3 := by decide
        have hx : 0 ≤ x / 8 ∧ x / 8 < 18446744073709551616 := by omega
        have e1 := u64_mask1 (x / 8) hx.1 hx.2
        have hz2 : x / 8 % 2 = 0 := hz
        rw [hz2] at e1
        rw [hv]
        clear hv hz hz2
        go_wp2
        go_ret
        exact ⟨rfl, h4.below⟩
      · have hv : pVal (some 7) = 9223372036854775815 := by decide
        have e63 : bits .and .u64 9223372036854775815 63 = 7 := by decide
        have hx : 0 ≤ x / 128 ∧ x / 128 < 18446744073709551616 := by omega
        have e1 := u64_mask1 (x / 128) hx.1 hx.2
        have hz2 : x / 128 % 2 = 0 := hz
        rw [hz2] at e1
        rw [hv]
        clear hv hz hz2
        go_wp2
        go_ret
        exact ⟨rfl, h4.below⟩
      · have hv : pVal (some 9) = 9223372036854775817 := by decide
        have e63 : bits .and .u64 9223372036854775817 63 = 9 := by decide
        have hx : 0 ≤ x / 512 ∧ x / 512 < 18446744073709551616 := by omega
        have e1 := u64_mask1 (x / 512) hx.1 hx.2
        have hz2 : x / 512 % 2 = 0 := hz
        rw [hz2] at e1
        rw [hv]
        clear hv hz hz2
        go_wp2
        go_ret
        exact ⟨rfl, h4.below⟩
      · have hv : pVal (some 1) = 9223372036854775809 := by decide
        have e63 : bits .and .u64 9223372036854775809 63 = 1 := by decide
        have hx : 0 ≤ x / 2 ∧ x / 2 < 18446744073709551616 := by omega
        have e1 := u64_mask1 (x / 2) hx.1 hx.2
        have hz2 : x / 2 % 2 = 0 := hz
        rw [hz2] at e1
        rw [hv]
        clear hv hz hz2
        go_wp2
        go_ret
        exact ⟨rfl, h4.below⟩
      · have hv : pVal (some 5) = 9223372036854775813 := by decide
        have e63 : bits .and .u64 9223372036854775813 63 = 5 := by decide
        have hx : 0 ≤ x / 32 ∧ x / 32 < 18446744073709551616 := by omega
        have e1 := u64_mask1 (x / 32) hx.1 hx.2
        have hz2 : x / 32 % 2 = 0 := hz
        rw [hz2] at e1
        rw [hv]
        clear hv hz hz2
        go_wp2
        go_ret
        exact ⟨rfl, h4.below⟩

  · have hk := known_cases mode
    have hdI := eMach_inv hI (pc := pc) (cause := cause) (tval := tval) hk p0 p1 c0 c1 t0 t1
    have hd0 : bits .and .u64 (eMach c (known mode) pc cause tval 0) 8 = 0 := mMach_8 (c 0) (known mode) m0 m1 hk
    clear hs hk
    generalize eMach c (known mode) pc cause tval = d at *
    generalize vector (c 1) cause = at_ at *
    go_wp2_with (refine wpList_store_mid rfl 26 (.tmp 13) (.tmp 27) rfl w2.heap.size 0 (gl d).toArray rfl rfl ?_ (by rw [List.size_toArray, gl_len]; exact isz26) (gl_one _) ?_
                 rotate_left
                 refine unhide ?_)
    rotate_left
    · exact there_new _ _ _ (by rw [List.size_toArray, List.size_toArray, gl_len, gl_len])
    have h3 := h2.clone (gl Z0).toArray 26 (gl d) (by rw [List.size_toArray, gl_len, gl_len])
    change Hid (wpList _ _ _ _ _ (((w2.alloc (.cells (gl Z0).toArray 26)).setCells w2.heap.size 0 (gl d))))
    generalize (w2.alloc (.cells (gl Z0).toArray 26)).setCells w2.heap.size 0 (gl d) = w2s at *
    generalize w2.heap.size = bd at *
    refine hide ?_
    have hlt3 := lt_of_heap' h3.heap
    have hr3 := range_blk h3.heap 0 38 (gl d) (by rw [List.drop_zero]; exact List.take_of_length_le (by rw [gl_len]; exact Nat.le_refl _))
    go_wp2_with (refine wpList_load_mid rfl 26 (.tmp 13) rfl bd 0 rfl (gl d) _ hr3 Try.underlying26 rfl (by rw [gl_len]; exact isz26) ?_
                 refine unhide ?_)
    refine hide ?_
    clear hr3
    go_wp2_with fail
    refine (pending_h h3 hdI 3 lines l0 l1).mono ?_
    rintro r w4 ⟨rfl, h4⟩
    have hpg : pg d 3 lines = 0 := by unfold pg; rw [if_pos (.inl rfl)]
    have hpk : pk d 3 lines = 0 := by unfold pk; rw [if_pos ⟨rfl, hd0⟩]
    have hpe : pend (pk d 3 lines) (pg d 3 lines) = none := by rw [hpg, hpk]; decide
    have e1 : pVal none = 0 := rfl
    have e2 : (none : Option Nat).isSome = false := rfl
    rw [hpe, e1, e2]
    clear hpe e1 e2 hpg hpk hd0
    go_wp2
    go_ret
    exact ⟨rfl, h4.below⟩

end Go.Proofs.Ytijhlbkhcpkkdaa
