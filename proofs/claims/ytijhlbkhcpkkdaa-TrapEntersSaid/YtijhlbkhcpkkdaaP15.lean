/- Layer 13: entering and returning, as the document says: the walks. -/
import Derived.Test.YtijhlbkhcpkkdaaP14
namespace Go.Proofs.Ytijhlbkhcpkkdaa
open Go.RowKit

theorem gi_sup {c : St} (hI : GI c) (k pc cause tval : Int) (hk : k = 0 ∨ k = 1) (p0 : 0 ≤ pc) (p1 : pc < 18446744073709551616) (c0 : 0 ≤ cause) (c1 : cause < 18446744073709551616) (t0 : 0 ≤ tval) (t1 : tval < 18446744073709551616) : GI (eSup c k pc cause tval) := by
  have hm := hI.r 0 (by omega)
  have h2 := mSup_bd (c 0) k hm.1 hm.2 hk
  have h1 := andNot_bd (c 0) 290 hm.1 hm.2 (by decide) (by decide)
  unfold eSup
  exact ((((hI.upd 15 (by omega) (by omega) (by omega)).upd 16 (by omega) c0 c1).upd 17 (by omega) t0 t1).upd 0 (by omega) h1.1 h1.2).upd 0 (by omega) h2.1 h2.2
theorem gi_mach {c : St} (hI : GI c) (k pc cause tval : Int) (hk : k = 0 ∨ k = 1 ∨ k = 3) (p0 : 0 ≤ pc) (p1 : pc < 18446744073709551616) (c0 : 0 ≤ cause) (c1 : cause < 18446744073709551616) (t0 : 0 ≤ tval) (t1 : tval < 18446744073709551616) : GI (eMach c k pc cause tval) := by
  have hm := hI.r 0 (by omega)
  have h2 := mMach_bd (c 0) k hm.1 hm.2 hk
  have h1 := andNot_bd (c 0) 6280 hm.1 hm.2 (by decide) (by decide)
  unfold eMach
  exact ((((hI.upd 6 (by omega) (by omega) (by omega)).upd 7 (by omega) c0 c1).upd 8 (by omega) t0 t1).upd 0 (by omega) h1.1 h1.2).upd 0 (by omega) h2.1 h2.2
theorem gi_rOut {c : St} (hI : GI c) (kind : Int) : GI (rOut c kind).1 := by
  have hm := hI.r 0 (by omega)
  unfold rOut
  split
  · have h := mRet_bd (c 0) hm.1 hm.2
    exact hI.upd 0 (by omega) h.1 h.2
  · split
    · have h := sRet_bd (c 0) hm.1 hm.2
      exact hI.upd 0 (by omega) h.1 h.2
    · exact hI
set_option maxRecDepth 100000 in
set_option maxHeartbeats 2000000 in
theorem enters_walk (c : St) (hI : GI c) (mode pc cause tval : Int) (p0 : 0 ≤ pc) (p1 : pc < 18446744073709551616) (c0 : 0 ≤ cause) (c1 : cause < 18446744073709551616) (t0 : 0 ≤ tval) (t1 : tval < 18446744073709551616) (w : World) :
    Calls Try.prog 3 #[.agg (gl c).toArray, .int .i64 mode, .int .u64 pc, .int .u64 cause, .int .u64 tval] w fun e w' => e = .returned (.bool true) ∧ Below w.heap.size w w' := by
  have J0 := (Heap.nil w).new (gl c).toArray 26
  obtain ⟨b0, hb0⟩ : ∃ b, w.heap.size = b := ⟨_, rfl⟩
  have hz := zero26
  go_enter Try.func3, Try.ntmps3
  go_wp2_with fail
  refine (awake_h J0).mono ?_
  rintro r w1 ⟨rfl, h1⟩
  rw [hb0] at h1
  clear J0
  have hlt1 := lt_of_heap' h1.heap
  have hr1 := range_blk h1.heap 0 38 (gl c) (by rw [List.drop_zero]; exact List.take_of_length_le (by rw [gl_len]; exact Nat.le_refl _))
  go_wp2_with (refine wpList_load_mid rfl 26 (.tmp 5) rfl b0 0 rfl (gl c) _ hr1 Try.underlying26 rfl (by rw [gl_len]; exact isz26) ?_
               refine unhide ?_)
  refine hide ?_
  clear hr1

  go_wp2_with fail
  refine (enter_h h1 hI mode pc cause tval p0 p1 c0 c1 t0 t1).mono ?_
  rintro r w2 ⟨hr, h2⟩
  clear hlt1
  rcases hr with ⟨hs, rfl⟩ | ⟨hs, rfl⟩
  · have Hs := hide hs
    have hD := gi_sup hI (known mode) pc cause tval (sup_k hs) p0 p1 c0 c1 t0 t1
    obtain ⟨d, hd⟩ : ∃ d, eSup c (known mode) pc cause tval = d := ⟨_, rfl⟩
    have Hd := hide hd
    rw [hd] at hD ⊢
    obtain ⟨at_, hat⟩ : ∃ x, vector (c 14) cause = x := ⟨_, rfl⟩
    have Hat := hide hat
    rw [hat]
    clear hs hd hat
    go_wp2_with (refine wpList_store_mid rfl 26 (.tmp 11) (.tmp 26) rfl w2.heap.size 0 (gl d).toArray rfl rfl ?_ (by rw [List.size_toArray, gl_len]; exact isz26) (gl_one _) ?_
                 rotate_left
                 refine unhide ?_)
    rotate_left
    · exact there_new _ _ _ (by first | rw [List.size_toArray, List.size_toArray, gl_len, gl_len] | rw [List.size_toArray, gl_len, gl_len])
    have h3 := h2.clone (gl Z0).toArray 26 (gl d) (by rw [List.size_toArray, gl_len, gl_len])
    change Hid (wpList _ _ _ _ _ (((w2.alloc (.cells (gl Z0).toArray 26)).setCells w2.heap.size 0 (gl d))))
    generalize (w2.alloc (.cells (gl Z0).toArray 26)).setCells w2.heap.size 0 (gl d) = w2s at *
    generalize w2.heap.size = bd at *
    refine hide ?_
    have hr3 := range_blk h3.f2.heap 0 38 (gl c) (by rw [List.drop_zero]; exact List.take_of_length_le (by rw [gl_len]; exact Nat.le_refl _))
    go_wp2_with (refine wpList_load_mid rfl 26 (.tmp 5) rfl b0 0 rfl (gl c) _ hr3 Try.underlying26 rfl (by rw [gl_len]; exact isz26) ?_
                 refine unhide ?_)
    refine hide ?_
    clear hr3
    go_wp2_with fail
    refine (renter_h h3 hI mode pc cause tval p0 p1 c0 c1 t0 t1).mono ?_
    rintro r w3 ⟨hr, h4⟩
    clear h3

    rcases hr with ⟨hs, rfl⟩ | ⟨hs, rfl⟩
    · rw [unhide Hd, unhide Hat]
      go_wp2_with (refine wpList_store_mid rfl 26 (.tmp 14) (.tmp 36) rfl w3.heap.size 0 (gl d).toArray rfl rfl ?_ (by rw [List.size_toArray, gl_len]; exact isz26) (gl_one _) ?_
                   rotate_left
                   refine unhide ?_)
      rotate_left
      · exact there_new _ _ _ (by first | rw [List.size_toArray, List.size_toArray, gl_len, gl_len] | rw [List.size_toArray, gl_len, gl_len])
      have h5 := h4.clone (gl Z0).toArray 26 (gl d) (by rw [List.size_toArray, gl_len, gl_len])
      change Hid (wpList _ _ _ _ _ (((w3.alloc (.cells (gl Z0).toArray 26)).setCells w3.heap.size 0 (gl d))))
      generalize (w3.alloc (.cells (gl Z0).toArray 26)).setCells w3.heap.size 0 (gl d) = w3s at *
      generalize w3.heap.size = be at *
      refine hide ?_
      go_upto_region 5 with fail
      have hbel := hide h5.below
      have hrE := range_blk h5.heap 0 38 (gl d) (by rw [List.drop_zero]; exact List.take_of_length_le (by rw [gl_len]; exact Nat.le_refl _))
      have hrD := range_blk h5.f2.heap 0 38 (gl d) (by rw [List.drop_zero]; exact List.take_of_length_le (by rw [gl_len]; exact Nat.le_refl _))
      have hq := eql26 hD
      go_wp2_with (refine wpList_load_mid rfl 26 (.tmp 11) rfl bd 0 rfl (gl d) _ hrD Try.underlying26 rfl (by rw [gl_len]; exact isz26) ?_
                   refine unhide ?_)
      refine hide ?_
      go_wp2_with (refine wpList_load_mid rfl 26 (.tmp 14) rfl be 0 rfl (gl d) _ hrE Try.underlying26 rfl (by rw [gl_len]; exact isz26) ?_
                   refine unhide ?_)
      refine hide ?_
      clear hrE hrD h4 h5
      go_wp2_with fail
      go_ret
      exact ⟨rfl, unhide hbel⟩

    · exact absurd (unhide Hs) hs
  · have Hs := hide hs
    have hD := gi_mach hI (known mode) pc cause tval (known_cases mode) p0 p1 c0 c1 t0 t1
    obtain ⟨d, hd⟩ : ∃ d, eMach c (known mode) pc cause tval = d := ⟨_, rfl⟩
    have Hd := hide hd
    rw [hd] at hD ⊢
    obtain ⟨at_, hat⟩ : ∃ x, vector (c 1) cause = x := ⟨_, rfl⟩
    have Hat := hide hat
    rw [hat]
    clear hs hd hat
    go_wp2_with (refine wpList_store_mid rfl 26 (.tmp 11) (.tmp 26) rfl w2.heap.size 0 (gl d).toArray rfl rfl ?_ (by rw [List.size_toArray, gl_len]; exact isz26) (gl_one _) ?_
                 rotate_left
                 refine unhide ?_)
    rotate_left
    · exact there_new _ _ _ (by first | rw [List.size_toArray, List.size_toArray, gl_len, gl_len] | rw [List.size_toArray, gl_len, gl_len])
    have h3 := h2.clone (gl Z0).toArray 26 (gl d) (by rw [List.size_toArray, gl_len, gl_len])
    change Hid (wpList _ _ _ _ _ (((w2.alloc (.cells (gl Z0).toArray 26)).setCells w2.heap.size 0 (gl d))))
    generalize (w2.alloc (.cells (gl Z0).toArray 26)).setCells w2.heap.size 0 (gl d) = w2s at *
    generalize w2.heap.size = bd at *
    refine hide ?_
    have hr3 := range_blk h3.f2.heap 0 38 (gl c) (by rw [List.drop_zero]; exact List.take_of_length_le (by rw [gl_len]; exact Nat.le_refl _))
    go_wp2_with (refine wpList_load_mid rfl 26 (.tmp 5) rfl b0 0 rfl (gl c) _ hr3 Try.underlying26 rfl (by rw [gl_len]; exact isz26) ?_
                 refine unhide ?_)
    refine hide ?_
    clear hr3
    go_wp2_with fail
    refine (renter_h h3 hI mode pc cause tval p0 p1 c0 c1 t0 t1).mono ?_
    rintro r w3 ⟨hr, h4⟩
    clear h3

    rcases hr with ⟨hs, rfl⟩ | ⟨hs, rfl⟩
    · exact absurd hs (unhide Hs)
    · rw [unhide Hd, unhide Hat]
      go_wp2_with (refine wpList_store_mid rfl 26 (.tmp 14) (.tmp 36) rfl w3.heap.size 0 (gl d).toArray rfl rfl ?_ (by rw [List.size_toArray, gl_len]; exact isz26) (gl_one _) ?_
                   rotate_left
                   refine unhide ?_)
      rotate_left
      · exact there_new _ _ _ (by first | rw [List.size_toArray, List.size_toArray, gl_len, gl_len] | rw [List.size_toArray, gl_len, gl_len])
      have h5 := h4.clone (gl Z0).toArray 26 (gl d) (by rw [List.size_toArray, gl_len, gl_len])
      change Hid (wpList _ _ _ _ _ (((w3.alloc (.cells (gl Z0).toArray 26)).setCells w3.heap.size 0 (gl d))))
      generalize (w3.alloc (.cells (gl Z0).toArray 26)).setCells w3.heap.size 0 (gl d) = w3s at *
      generalize w3.heap.size = be at *
      refine hide ?_
      go_upto_region 5 with fail
      have hbel := hide h5.below
      have hrE := range_blk h5.heap 0 38 (gl d) (by rw [List.drop_zero]; exact List.take_of_length_le (by rw [gl_len]; exact Nat.le_refl _))
      have hrD := range_blk h5.f2.heap 0 38 (gl d) (by rw [List.drop_zero]; exact List.take_of_length_le (by rw [gl_len]; exact Nat.le_refl _))
      have hq := eql26 hD
      go_wp2_with (refine wpList_load_mid rfl 26 (.tmp 11) rfl bd 0 rfl (gl d) _ hrD Try.underlying26 rfl (by rw [gl_len]; exact isz26) ?_
                   refine unhide ?_)
      refine hide ?_
      go_wp2_with (refine wpList_load_mid rfl 26 (.tmp 14) rfl be 0 rfl (gl d) _ hrE Try.underlying26 rfl (by rw [gl_len]; exact isz26) ?_
                   refine unhide ?_)
      refine hide ?_
      clear hrE hrD h4 h5
      go_wp2_with fail
      go_ret
      exact ⟨rfl, unhide hbel⟩

set_option maxRecDepth 100000 in
set_option maxHeartbeats 2000000 in
theorem returns_walk (c : St) (hI : GI c) (kind : Int) (w : World) :
    Calls Try.prog 4 #[.agg (gl c).toArray, .int .i64 kind] w fun e w' => e = .returned (.bool true) ∧ Below w.heap.size w w' := by
  have J0 := (Heap.nil w).new (gl c).toArray 26
  obtain ⟨b0, hb0⟩ : ∃ b, w.heap.size = b := ⟨_, rfl⟩
  have hz := zero26
  go_enter Try.func4, Try.ntmps4
  go_wp2_with fail
  refine (awake_h J0).mono ?_
  rintro r w1 ⟨rfl, h1⟩
  rw [hb0] at h1
  clear J0
  have hlt1 := lt_of_heap' h1.heap
  have hr1 := range_blk h1.heap 0 38 (gl c) (by rw [List.drop_zero]; exact List.take_of_length_le (by rw [gl_len]; exact Nat.le_refl _))
  go_wp2_with (refine wpList_load_mid rfl 26 (.tmp 2) rfl b0 0 rfl (gl c) _ hr1 Try.underlying26 rfl (by rw [gl_len]; exact isz26) ?_
               refine unhide ?_)
  refine hide ?_
  clear hr1

  go_wp2_with fail
  refine (return_h h1 hI kind).mono ?_
  rintro r w2 ⟨rfl, h2⟩
  clear hlt1
  have hD := gi_rOut hI kind
  obtain ⟨q, hq0⟩ : ∃ q, rOut c kind = q := ⟨_, rfl⟩
  have Hq := hide hq0
  rw [hq0] at hD ⊢
  clear hq0
  obtain ⟨d, mq, aq⟩ := q
  simp only at hD ⊢
  go_wp2_with (refine wpList_store_mid rfl 26 (.tmp 5) (.tmp 17) rfl w2.heap.size 0 (gl d).toArray rfl rfl ?_ (by rw [List.size_toArray, gl_len]; exact isz26) (gl_one _) ?_
               rotate_left
               refine unhide ?_)
  rotate_left
  · exact there_new _ _ _ (by first | rw [List.size_toArray, List.size_toArray, gl_len, gl_len] | rw [List.size_toArray, gl_len, gl_len])
  have h3 := h2.clone (gl Z0).toArray 26 (gl d) (by rw [List.size_toArray, gl_len, gl_len])
  change Hid (wpList _ _ _ _ _ (((w2.alloc (.cells (gl Z0).toArray 26)).setCells w2.heap.size 0 (gl d))))
  generalize (w2.alloc (.cells (gl Z0).toArray 26)).setCells w2.heap.size 0 (gl d) = w2s at *
  generalize w2.heap.size = bd at *
  refine hide ?_
  have hr3 := range_blk h3.f2.heap 0 38 (gl c) (by rw [List.drop_zero]; exact List.take_of_length_le (by rw [gl_len]; exact Nat.le_refl _))
  go_wp2_with (refine wpList_load_mid rfl 26 (.tmp 2) rfl b0 0 rfl (gl c) _ hr3 Try.underlying26 rfl (by rw [gl_len]; exact isz26) ?_
               refine unhide ?_)
  refine hide ?_
  clear hr3
  go_wp2_with fail
  refine (rreturn_h h3 hI kind).mono ?_
  rintro r w3 ⟨hr, h4⟩
  clear h3

  rw [unhide Hq] at hr
  subst hr
  simp only
  go_wp2_with (refine wpList_store_mid rfl 26 (.tmp 8) (.tmp 24) rfl w3.heap.size 0 (gl d).toArray rfl rfl ?_ (by rw [List.size_toArray, gl_len]; exact isz26) (gl_one _) ?_
               rotate_left
               refine unhide ?_)
  rotate_left
  · exact there_new _ _ _ (by first | rw [List.size_toArray, List.size_toArray, gl_len, gl_len] | rw [List.size_toArray, gl_len, gl_len])
  have h5 := h4.clone (gl Z0).toArray 26 (gl d) (by rw [List.size_toArray, gl_len, gl_len])
  change Hid (wpList _ _ _ _ _ (((w3.alloc (.cells (gl Z0).toArray 26)).setCells w3.heap.size 0 (gl d))))
  generalize (w3.alloc (.cells (gl Z0).toArray 26)).setCells w3.heap.size 0 (gl d) = w3s at *
  generalize w3.heap.size = be at *
  refine hide ?_
  go_upto_region 5 with fail
  have hbel := hide h5.below
  have hrE := range_blk h5.heap 0 38 (gl d) (by rw [List.drop_zero]; exact List.take_of_length_le (by rw [gl_len]; exact Nat.le_refl _))
  have hrD := range_blk h5.f2.heap 0 38 (gl d) (by rw [List.drop_zero]; exact List.take_of_length_le (by rw [gl_len]; exact Nat.le_refl _))
  have hq := eql26 hD
  go_wp2_with (refine wpList_load_mid rfl 26 (.tmp 5) rfl bd 0 rfl (gl d) _ hrD Try.underlying26 rfl (by rw [gl_len]; exact isz26) ?_
               refine unhide ?_)
  refine hide ?_
  go_wp2_with (refine wpList_load_mid rfl 26 (.tmp 8) rfl be 0 rfl (gl d) _ hrE Try.underlying26 rfl (by rw [gl_len]; exact isz26) ?_
               refine unhide ?_)
  refine hide ?_
  clear hrE hrD h4 h5
  go_wp2_with fail
  go_ret
  exact ⟨rfl, unhide hbel⟩

end Go.Proofs.Ytijhlbkhcpkkdaa
