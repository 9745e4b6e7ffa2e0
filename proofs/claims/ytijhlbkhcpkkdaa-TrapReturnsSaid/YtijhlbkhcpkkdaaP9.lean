/- Layer 13: whoever enters and returns is where it was: the walk. -/
import Derived.Test.YtijhlbkhcpkkdaaP8
namespace Go.Proofs.Ytijhlbkhcpkkdaa
open Go.RowKit

set_option maxRecDepth 100000 in
set_option maxHeartbeats 4000000 in
theorem back_walk (c : St) (hI : GI c) (mode pc cause tval : Int) (p0 : 0 ≤ pc) (p1 : pc < 18446744073709551616) (c0 : 0 ≤ cause) (c1 : cause < 18446744073709551616) (t0 : 0 ≤ tval) (t1 : tval < 18446744073709551616) (w : World) :
    Calls Try.prog 5 #[.agg (gl c).toArray, .int .i64 mode, .int .u64 pc, .int .u64 cause, .int .u64 tval] w fun e w' => e = .returned (.bool true) ∧ Below w.heap.size w w' := by
  have J0 := (Heap.nil w).new (gl c).toArray 26
  obtain ⟨b0, hb0⟩ : ∃ b, w.heap.size = b := ⟨_, rfl⟩
  have hz := zero26
  obtain ⟨m0, m1⟩ := hI.r 0 (by omega)
  go_enter Try.func5, Try.ntmps5
  go_wp2_with fail
  refine (awake_h J0).mono ?_
  rintro r w1 ⟨rfl, h1⟩
  rw [hb0] at h1
  clear J0
  have hX : (IntKind.u64.wrap mode).tmod 3 = 0 ∨ (IntKind.u64.wrap mode).tmod 3 = 1 ∨ (IntKind.u64.wrap mode).tmod 3 = 2 := by
    rw [IntKind.wrap_u64, Int.tmod_eq_emod_of_nonneg (by omega)]
    omega
  go_upto_region 3 with fail
  go_cut [1] (fun s1 wx => ∃ k : Int, s1 = .int .i64 k ∧ (k = 0 ∨ k = 1 ∨ k = 3) ∧ Heap w wx [HP.blk b0 (gl c).toArray 26])
  case first =>
    rcases hX with hX | hX | hX
    · go_wp2
      go_meet
      exact ⟨0, rfl, by decide, h1.alloc _⟩
    · go_wp2
      go_meet
      exact ⟨1, rfl, by decide, h1.alloc _⟩
    · go_wp2
      go_meet
      exact ⟨3, rfl, by decide, h1.alloc _⟩
  case rest =>
    obtain ⟨k, rfl, hk, h1⟩ := hcut
    clear hX
    have hlt1 := lt_of_heap' h1.heap
    have hr1 := range_blk h1.heap 0 38 (gl c) (by rw [List.drop_zero]; exact List.take_of_length_le (by rw [gl_len]; exact Nat.le_refl _))
    go_wp2_with (refine wpList_load_mid rfl 26 (.tmp 5) rfl b0 0 rfl (gl c) _ hr1 Try.underlying26 rfl (by rw [gl_len]; exact isz26) ?_
                 refine unhide ?_)
    refine hide ?_
    clear hr1

    go_wp2_with fail
    refine (enter_h h1 hI k pc cause tval p0 p1 c0 c1 t0 t1).mono ?_
    rintro r w2 ⟨hr, h2⟩
    clear hlt1
    rcases hk with rfl | rfl | rfl
    · have hkk : known 0 = 0 := rfl
      rw [hkk] at hr
      rcases hr with ⟨hs, rfl⟩ | ⟨hs, rfl⟩
      · have hdI := eSup_inv hI (k := 0) (pc := pc) (cause := cause) (tval := tval) (by decide) p0 p1 c0 c1 t0 t1
        have hd0 : bits .and .u64 (eSup c 0 pc cause tval 0) 2 = 0 := mSup_2 (c 0) 0 m0 m1 (by decide)
        have Hmode : Hid (sMode (eSup c 0 pc cause tval 0) = 0) := hide (sMode_mSup (c 0) 0 m0 m1 (by decide))
        have Hat : Hid (eSup c 0 pc cause tval 15 = pc / 2 * 2) := hide rfl
        have Hon : Hid (bits .and .u64 (sRet (eSup c 0 pc cause tval 0)) 2 = bits .and .u64 (c 0) 2) := hide (sRet_mSup (c 0) 0 m0 m1 (by decide))
        clear hs
        generalize eSup c 0 pc cause tval = d at *
        generalize vector (c 14) cause = at_ at *
        go_wp2_with (refine wpList_store_mid rfl 26 (.tmp 11) (.tmp 34) rfl w2.heap.size 0 (gl d).toArray rfl rfl ?_ (by rw [List.size_toArray, gl_len]; exact isz26) (gl_one _) ?_
                     rotate_left
                     refine unhide ?_)
        rotate_left
        · exact there_new _ _ _ (by rw [List.size_toArray, List.size_toArray, gl_len, gl_len])
        have h3 := h2.clone (gl Z0).toArray 26 (gl d) (by rw [List.size_toArray, gl_len, gl_len])
        change Hid (wpList _ _ _ _ _ (((w2.alloc (.cells (gl Z0).toArray 26)).setCells w2.heap.size 0 (gl d))))
        generalize (w2.alloc (.cells (gl Z0).toArray 26)).setCells w2.heap.size 0 (gl d) = w2s at *
        generalize w2.heap.size = bd at *
        refine hide ?_
        have hlt3 := lt_of_heap' h3.heap
        have hr3 := range_blk h3.heap 0 38 (gl d) (by rw [List.drop_zero]; exact List.take_of_length_le (by rw [gl_len]; exact Nat.le_refl _))
        go_wp2_with (refine wpList_load_mid rfl 26 (.tmp 11) rfl bd 0 rfl (gl d) _ hr3 Try.underlying26 rfl (by rw [gl_len]; exact isz26) ?_
                     refine unhide ?_)
        refine hide ?_
        clear hr3
        go_wp2_with fail
        refine (return_h h3 hdI 50).mono ?_
        rintro r w4 ⟨rfl, h4⟩
        rw [show (rOut d 50).1 = upd d 0 (sRet (d 0)) from rfl, show (rOut d 50).2.1 = 0 from unhide Hmode, show (rOut d 50).2.2 = pc / 2 * 2 from unhide Hat]
        obtain ⟨f, hf⟩ : ∃ f, upd d 0 (sRet (d 0)) = f := ⟨_, rfl⟩
        have hf0 : f 0 = sRet (d 0) := by rw [← hf]; rfl
        rw [hf]
        clear hf hlt3
        go_wp2_with (refine wpList_store_mid rfl 26 (.tmp 16) (.tmp 43) rfl w4.heap.size 0 (gl f).toArray rfl rfl ?_ (by rw [List.size_toArray, gl_len]; exact isz26) (gl_one _) ?_
                     rotate_left
                     refine unhide ?_)
        rotate_left
        · exact there_new _ _ _ (by rw [List.size_toArray, List.size_toArray, gl_len, gl_len])
        have h5 := h4.clone (gl Z0).toArray 26 (gl f) (by rw [List.size_toArray, gl_len, gl_len])
        change Hid (wpList _ _ _ _ _ (((w4.alloc (.cells (gl Z0).toArray 26)).setCells w4.heap.size 0 (gl f))))
        generalize (w4.alloc (.cells (gl Z0).toArray 26)).setCells w4.heap.size 0 (gl f) = w4s at *
        generalize w4.heap.size = bf at *
        refine hide ?_
        have hlt5 := lt_of_heap' h5.heap
        have x5 := (gcell h5.heap (i := 0) (by omega)).1
        rw [show gk 0 = .u64 from rfl] at x5
        have hlt6 := lt_of_heap' h5.f2.heap
        have x6 := (gcell h5.f2.heap (i := 0) (by omega)).1
        rw [show gk 0 = .u64 from rfl] at x6
        have hlt7 := lt_of_heap' h5.f3.heap
        have x7 := (gcell h5.f3.heap (i := 0) (by omega)).1
        rw [show gk 0 = .u64 from rfl] at x7
        have eA : bits .and .u64 (f 0) 2 = bits .and .u64 (c 0) 2 := by rw [hf0]; exact unhide Hon
        have ep := u64_not1 pc p0 p1
        clear hf0
        generalize f 0 = f0 at *
        generalize d 0 = dz at *
        obtain ⟨A, hA⟩ : ∃ A, bits .and .u64 (c 0) 2 = A := ⟨_, rfl⟩
        rw [hA] at eA
        generalize c 0 = cz at *
        have hbel := hide h5.below
        clear h2 h3 h4 h5
        go_wp2
        go_ret
        exact ⟨rfl, unhide hbel⟩

      · have hdI := eMach_inv hI (k := 0) (pc := pc) (cause := cause) (tval := tval) (by decide) p0 p1 c0 c1 t0 t1
        have hd0 : bits .and .u64 (eMach c 0 pc cause tval 0) 8 = 0 := mMach_8 (c 0) 0 m0 m1 (by decide)
        have Hmode : Hid (mMode (eMach c 0 pc cause tval 0) = 0) := hide (mMode_mMach (c 0) 0 m0 m1 (by decide))
        have Hat : Hid (eMach c 0 pc cause tval 6 = pc / 2 * 2) := hide rfl
        have Hon : Hid (bits .and .u64 (mRet (eMach c 0 pc cause tval 0)) 8 = bits .and .u64 (c 0) 8) := hide (mRet_mMach (c 0) 0 m0 m1 (by decide))
        clear hs
        generalize eMach c 0 pc cause tval = d at *
        generalize vector (c 1) cause = at_ at *
        go_wp2_with (refine wpList_store_mid rfl 26 (.tmp 11) (.tmp 34) rfl w2.heap.size 0 (gl d).toArray rfl rfl ?_ (by rw [List.size_toArray, gl_len]; exact isz26) (gl_one _) ?_
                     rotate_left
                     refine unhide ?_)
        rotate_left
        · exact there_new _ _ _ (by rw [List.size_toArray, List.size_toArray, gl_len, gl_len])
        have h3 := h2.clone (gl Z0).toArray 26 (gl d) (by rw [List.size_toArray, gl_len, gl_len])
        change Hid (wpList _ _ _ _ _ (((w2.alloc (.cells (gl Z0).toArray 26)).setCells w2.heap.size 0 (gl d))))
        generalize (w2.alloc (.cells (gl Z0).toArray 26)).setCells w2.heap.size 0 (gl d) = w2s at *
        generalize w2.heap.size = bd at *
        refine hide ?_
        have hlt3 := lt_of_heap' h3.heap
        have hr3 := range_blk h3.heap 0 38 (gl d) (by rw [List.drop_zero]; exact List.take_of_length_le (by rw [gl_len]; exact Nat.le_refl _))
        go_wp2_with (refine wpList_load_mid rfl 26 (.tmp 11) rfl bd 0 rfl (gl d) _ hr3 Try.underlying26 rfl (by rw [gl_len]; exact isz26) ?_
                     refine unhide ?_)
        refine hide ?_
        clear hr3
        go_wp2_with fail
        refine (return_h h3 hdI 49).mono ?_
        rintro r w4 ⟨rfl, h4⟩
        rw [show (rOut d 49).1 = upd d 0 (mRet (d 0)) from rfl, show (rOut d 49).2.1 = 0 from unhide Hmode, show (rOut d 49).2.2 = pc / 2 * 2 from unhide Hat]
        obtain ⟨f, hf⟩ : ∃ f, upd d 0 (mRet (d 0)) = f := ⟨_, rfl⟩
        have hf0 : f 0 = mRet (d 0) := by rw [← hf]; rfl
        rw [hf]
        clear hf hlt3
        go_wp2_with (refine wpList_store_mid rfl 26 (.tmp 16) (.tmp 43) rfl w4.heap.size 0 (gl f).toArray rfl rfl ?_ (by rw [List.size_toArray, gl_len]; exact isz26) (gl_one _) ?_
                     rotate_left
                     refine unhide ?_)
        rotate_left
        · exact there_new _ _ _ (by rw [List.size_toArray, List.size_toArray, gl_len, gl_len])
        have h5 := h4.clone (gl Z0).toArray 26 (gl f) (by rw [List.size_toArray, gl_len, gl_len])
        change Hid (wpList _ _ _ _ _ (((w4.alloc (.cells (gl Z0).toArray 26)).setCells w4.heap.size 0 (gl f))))
        generalize (w4.alloc (.cells (gl Z0).toArray 26)).setCells w4.heap.size 0 (gl f) = w4s at *
        generalize w4.heap.size = bf at *
        refine hide ?_
        have hlt5 := lt_of_heap' h5.heap
        have x5 := (gcell h5.heap (i := 0) (by omega)).1
        rw [show gk 0 = .u64 from rfl] at x5
        have hlt6 := lt_of_heap' h5.f2.heap
        have x6 := (gcell h5.f2.heap (i := 0) (by omega)).1
        rw [show gk 0 = .u64 from rfl] at x6
        have hlt7 := lt_of_heap' h5.f3.heap
        have x7 := (gcell h5.f3.heap (i := 0) (by omega)).1
        rw [show gk 0 = .u64 from rfl] at x7
        have eA : bits .and .u64 (f 0) 8 = bits .and .u64 (c 0) 8 := by rw [hf0]; exact unhide Hon
        have ep := u64_not1 pc p0 p1
        clear hf0
        generalize f 0 = f0 at *
        generalize d 0 = dz at *
        obtain ⟨A, hA⟩ : ∃ A, bits .and .u64 (c 0) 8 = A := ⟨_, rfl⟩
        rw [hA] at eA
        generalize c 0 = cz at *
        have hbel := hide h5.below
        clear h2 h3 h4 h5
        go_wp2
        go_ret
        exact ⟨rfl, unhide hbel⟩

    · have hkk : known 1 = 1 := rfl
      rw [hkk] at hr
      rcases hr with ⟨hs, rfl⟩ | ⟨hs, rfl⟩
      · have hdI := eSup_inv hI (k := 1) (pc := pc) (cause := cause) (tval := tval) (by decide) p0 p1 c0 c1 t0 t1
        have hd0 : bits .and .u64 (eSup c 1 pc cause tval 0) 2 = 0 := mSup_2 (c 0) 1 m0 m1 (by decide)
        have Hmode : Hid (sMode (eSup c 1 pc cause tval 0) = 1) := hide (sMode_mSup (c 0) 1 m0 m1 (by decide))
        have Hat : Hid (eSup c 1 pc cause tval 15 = pc / 2 * 2) := hide rfl
        have Hon : Hid (bits .and .u64 (sRet (eSup c 1 pc cause tval 0)) 2 = bits .and .u64 (c 0) 2) := hide (sRet_mSup (c 0) 1 m0 m1 (by decide))
        clear hs
        generalize eSup c 1 pc cause tval = d at *
        generalize vector (c 14) cause = at_ at *
        go_wp2_with (refine wpList_store_mid rfl 26 (.tmp 11) (.tmp 34) rfl w2.heap.size 0 (gl d).toArray rfl rfl ?_ (by rw [List.size_toArray, gl_len]; exact isz26) (gl_one _) ?_
                     rotate_left
                     refine unhide ?_)
        rotate_left
        · exact there_new _ _ _ (by rw [List.size_toArray, List.size_toArray, gl_len, gl_len])
        have h3 := h2.clone (gl Z0).toArray 26 (gl d) (by rw [List.size_toArray, gl_len, gl_len])
        change Hid (wpList _ _ _ _ _ (((w2.alloc (.cells (gl Z0).toArray 26)).setCells w2.heap.size 0 (gl d))))
        generalize (w2.alloc (.cells (gl Z0).toArray 26)).setCells w2.heap.size 0 (gl d) = w2s at *
        generalize w2.heap.size = bd at *
        refine hide ?_
        have hlt3 := lt_of_heap' h3.heap
        have hr3 := range_blk h3.heap 0 38 (gl d) (by rw [List.drop_zero]; exact List.take_of_length_le (by rw [gl_len]; exact Nat.le_refl _))
        go_wp2_with (refine wpList_load_mid rfl 26 (.tmp 11) rfl bd 0 rfl (gl d) _ hr3 Try.underlying26 rfl (by rw [gl_len]; exact isz26) ?_
                     refine unhide ?_)
        refine hide ?_
        clear hr3
        go_wp2_with fail
        refine (return_h h3 hdI 50).mono ?_
        rintro r w4 ⟨rfl, h4⟩
        rw [show (rOut d 50).1 = upd d 0 (sRet (d 0)) from rfl, show (rOut d 50).2.1 = 1 from unhide Hmode, show (rOut d 50).2.2 = pc / 2 * 2 from unhide Hat]
        obtain ⟨f, hf⟩ : ∃ f, upd d 0 (sRet (d 0)) = f := ⟨_, rfl⟩
        have hf0 : f 0 = sRet (d 0) := by rw [← hf]; rfl
        rw [hf]
        clear hf hlt3
        go_wp2_with (refine wpList_store_mid rfl 26 (.tmp 16) (.tmp 43) rfl w4.heap.size 0 (gl f).toArray rfl rfl ?_ (by rw [List.size_toArray, gl_len]; exact isz26) (gl_one _) ?_
                     rotate_left
                     refine unhide ?_)
        rotate_left
        · exact there_new _ _ _ (by rw [List.size_toArray, List.size_toArray, gl_len, gl_len])
        have h5 := h4.clone (gl Z0).toArray 26 (gl f) (by rw [List.size_toArray, gl_len, gl_len])
        change Hid (wpList _ _ _ _ _ (((w4.alloc (.cells (gl Z0).toArray 26)).setCells w4.heap.size 0 (gl f))))
        generalize (w4.alloc (.cells (gl Z0).toArray 26)).setCells w4.heap.size 0 (gl f) = w4s at *
        generalize w4.heap.size = bf at *
        refine hide ?_
        have hlt5 := lt_of_heap' h5.heap
        have x5 := (gcell h5.heap (i := 0) (by omega)).1
        rw [show gk 0 = .u64 from rfl] at x5
        have hlt6 := lt_of_heap' h5.f2.heap
        have x6 := (gcell h5.f2.heap (i := 0) (by omega)).1
        rw [show gk 0 = .u64 from rfl] at x6
        have hlt7 := lt_of_heap' h5.f3.heap
        have x7 := (gcell h5.f3.heap (i := 0) (by omega)).1
        rw [show gk 0 = .u64 from rfl] at x7
        have eA : bits .and .u64 (f 0) 2 = bits .and .u64 (c 0) 2 := by rw [hf0]; exact unhide Hon
        have ep := u64_not1 pc p0 p1
        clear hf0
        generalize f 0 = f0 at *
        generalize d 0 = dz at *
        obtain ⟨A, hA⟩ : ∃ A, bits .and .u64 (c 0) 2 = A := ⟨_, rfl⟩
        rw [hA] at eA
        generalize c 0 = cz at *
        have hbel := hide h5.below
        clear h2 h3 h4 h5
        go_wp2
        go_ret
        exact ⟨rfl, unhide hbel⟩

      · have hdI := eMach_inv hI (k := 1) (pc := pc) (cause := cause) (tval := tval) (by decide) p0 p1 c0 c1 t0 t1
        have hd0 : bits .and .u64 (eMach c 1 pc cause tval 0) 8 = 0 := mMach_8 (c 0) 1 m0 m1 (by decide)
        have Hmode : Hid (mMode (eMach c 1 pc cause tval 0) = 1) := hide (mMode_mMach (c 0) 1 m0 m1 (by decide))
        have Hat : Hid (eMach c 1 pc cause tval 6 = pc / 2 * 2) := hide rfl
        have Hon : Hid (bits .and .u64 (mRet (eMach c 1 pc cause tval 0)) 8 = bits .and .u64 (c 0) 8) := hide (mRet_mMach (c 0) 1 m0 m1 (by decide))
        clear hs
        generalize eMach c 1 pc cause tval = d at *
        generalize vector (c 1) cause = at_ at *
        go_wp2_with (refine wpList_store_mid rfl 26 (.tmp 11) (.tmp 34) rfl w2.heap.size 0 (gl d).toArray rfl rfl ?_ (by rw [List.size_toArray, gl_len]; exact isz26) (gl_one _) ?_
                     rotate_left
                     refine unhide ?_)
        rotate_left
        · exact there_new _ _ _ (by rw [List.size_toArray, List.size_toArray, gl_len, gl_len])
        have h3 := h2.clone (gl Z0).toArray 26 (gl d) (by rw [List.size_toArray, gl_len, gl_len])
        change Hid (wpList _ _ _ _ _ (((w2.alloc (.cells (gl Z0).toArray 26)).setCells w2.heap.size 0 (gl d))))
        generalize (w2.alloc (.cells (gl Z0).toArray 26)).setCells w2.heap.size 0 (gl d) = w2s at *
        generalize w2.heap.size = bd at *
        refine hide ?_
        have hlt3 := lt_of_heap' h3.heap
        have hr3 := range_blk h3.heap 0 38 (gl d) (by rw [List.drop_zero]; exact List.take_of_length_le (by rw [gl_len]; exact Nat.le_refl _))
        go_wp2_with (refine wpList_load_mid rfl 26 (.tmp 11) rfl bd 0 rfl (gl d) _ hr3 Try.underlying26 rfl (by rw [gl_len]; exact isz26) ?_
                     refine unhide ?_)
        refine hide ?_
        clear hr3
        go_wp2_with fail
        refine (return_h h3 hdI 49).mono ?_
        rintro r w4 ⟨rfl, h4⟩
        rw [show (rOut d 49).1 = upd d 0 (mRet (d 0)) from rfl, show (rOut d 49).2.1 = 1 from unhide Hmode, show (rOut d 49).2.2 = pc / 2 * 2 from unhide Hat]
        obtain ⟨f, hf⟩ : ∃ f, upd d 0 (mRet (d 0)) = f := ⟨_, rfl⟩
        have hf0 : f 0 = mRet (d 0) := by rw [← hf]; rfl
        rw [hf]
        clear hf hlt3
        go_wp2_with (refine wpList_store_mid rfl 26 (.tmp 16) (.tmp 43) rfl w4.heap.size 0 (gl f).toArray rfl rfl ?_ (by rw [List.size_toArray, gl_len]; exact isz26) (gl_one _) ?_
                     rotate_left
                     refine unhide ?_)
        rotate_left
        · exact there_new _ _ _ (by rw [List.size_toArray, List.size_toArray, gl_len, gl_len])
        have h5 := h4.clone (gl Z0).toArray 26 (gl f) (by rw [List.size_toArray, gl_len, gl_len])
        change Hid (wpList _ _ _ _ _ (((w4.alloc (.cells (gl Z0).toArray 26)).setCells w4.heap.size 0 (gl f))))
        generalize (w4.alloc (.cells (gl Z0).toArray 26)).setCells w4.heap.size 0 (gl f) = w4s at *
        generalize w4.heap.size = bf at *
        refine hide ?_
        have hlt5 := lt_of_heap' h5.heap
        have x5 := (gcell h5.heap (i := 0) (by omega)).1
        rw [show gk 0 = .u64 from rfl] at x5
        have hlt6 := lt_of_heap' h5.f2.heap
        have x6 := (gcell h5.f2.heap (i := 0) (by omega)).1
        rw [show gk 0 = .u64 from rfl] at x6
        have hlt7 := lt_of_heap' h5.f3.heap
        have x7 := (gcell h5.f3.heap (i := 0) (by omega)).1
        rw [show gk 0 = .u64 from rfl] at x7
        have eA : bits .and .u64 (f 0) 8 = bits .and .u64 (c 0) 8 := by rw [hf0]; exact unhide Hon
        have ep := u64_not1 pc p0 p1
        clear hf0
        generalize f 0 = f0 at *
        generalize d 0 = dz at *
        obtain ⟨A, hA⟩ : ∃ A, bits .and .u64 (c 0) 8 = A := ⟨_, rfl⟩
        rw [hA] at eA
        generalize c 0 = cz at *
        have hbel := hide h5.below
        clear h2 h3 h4 h5
        go_wp2
        go_ret
        exact ⟨rfl, unhide hbel⟩

    · have hkk : known 3 = 3 := rfl
      rw [hkk] at hr
      rcases hr with ⟨hs, rfl⟩ | ⟨hs, rfl⟩
      · exact absurd hs (fun h => h.1 rfl)
      · have hdI := eMach_inv hI (k := 3) (pc := pc) (cause := cause) (tval := tval) (by decide) p0 p1 c0 c1 t0 t1
        have hd0 : bits .and .u64 (eMach c 3 pc cause tval 0) 8 = 0 := mMach_8 (c 0) 3 m0 m1 (by decide)
        have Hmode : Hid (mMode (eMach c 3 pc cause tval 0) = 3) := hide (mMode_mMach (c 0) 3 m0 m1 (by decide))
        have Hat : Hid (eMach c 3 pc cause tval 6 = pc / 2 * 2) := hide rfl
        have Hon : Hid (bits .and .u64 (mRet (eMach c 3 pc cause tval 0)) 8 = bits .and .u64 (c 0) 8) := hide (mRet_mMach (c 0) 3 m0 m1 (by decide))
        clear hs
        generalize eMach c 3 pc cause tval = d at *
        generalize vector (c 1) cause = at_ at *
        go_wp2_with (refine wpList_store_mid rfl 26 (.tmp 11) (.tmp 34) rfl w2.heap.size 0 (gl d).toArray rfl rfl ?_ (by rw [List.size_toArray, gl_len]; exact isz26) (gl_one _) ?_
                     rotate_left
                     refine unhide ?_)
        rotate_left
        · exact there_new _ _ _ (by rw [List.size_toArray, List.size_toArray, gl_len, gl_len])
        have h3 := h2.clone (gl Z0).toArray 26 (gl d) (by rw [List.size_toArray, gl_len, gl_len])
        change Hid (wpList _ _ _ _ _ (((w2.alloc (.cells (gl Z0).toArray 26)).setCells w2.heap.size 0 (gl d))))
        generalize (w2.alloc (.cells (gl Z0).toArray 26)).setCells w2.heap.size 0 (gl d) = w2s at *
        generalize w2.heap.size = bd at *
        refine hide ?_
        have hlt3 := lt_of_heap' h3.heap
        have hr3 := range_blk h3.heap 0 38 (gl d) (by rw [List.drop_zero]; exact List.take_of_length_le (by rw [gl_len]; exact Nat.le_refl _))
        go_wp2_with (refine wpList_load_mid rfl 26 (.tmp 11) rfl bd 0 rfl (gl d) _ hr3 Try.underlying26 rfl (by rw [gl_len]; exact isz26) ?_
                     refine unhide ?_)
        refine hide ?_
        clear hr3
        go_wp2_with fail
        refine (return_h h3 hdI 49).mono ?_
        rintro r w4 ⟨rfl, h4⟩
        rw [show (rOut d 49).1 = upd d 0 (mRet (d 0)) from rfl, show (rOut d 49).2.1 = 3 from unhide Hmode, show (rOut d 49).2.2 = pc / 2 * 2 from unhide Hat]
        obtain ⟨f, hf⟩ : ∃ f, upd d 0 (mRet (d 0)) = f := ⟨_, rfl⟩
        have hf0 : f 0 = mRet (d 0) := by rw [← hf]; rfl
        rw [hf]
        clear hf hlt3
        go_wp2_with (refine wpList_store_mid rfl 26 (.tmp 16) (.tmp 43) rfl w4.heap.size 0 (gl f).toArray rfl rfl ?_ (by rw [List.size_toArray, gl_len]; exact isz26) (gl_one _) ?_
                     rotate_left
                     refine unhide ?_)
        rotate_left
        · exact there_new _ _ _ (by rw [List.size_toArray, List.size_toArray, gl_len, gl_len])
        have h5 := h4.clone (gl Z0).toArray 26 (gl f) (by rw [List.size_toArray, gl_len, gl_len])
        change Hid (wpList _ _ _ _ _ (((w4.alloc (.cells (gl Z0).toArray 26)).setCells w4.heap.size 0 (gl f))))
        generalize (w4.alloc (.cells (gl Z0).toArray 26)).setCells w4.heap.size 0 (gl f) = w4s at *
        generalize w4.heap.size = bf at *
        refine hide ?_
        have hlt5 := lt_of_heap' h5.heap
        have x5 := (gcell h5.heap (i := 0) (by omega)).1
        rw [show gk 0 = .u64 from rfl] at x5
        have hlt6 := lt_of_heap' h5.f2.heap
        have x6 := (gcell h5.f2.heap (i := 0) (by omega)).1
        rw [show gk 0 = .u64 from rfl] at x6
        have hlt7 := lt_of_heap' h5.f3.heap
        have x7 := (gcell h5.f3.heap (i := 0) (by omega)).1
        rw [show gk 0 = .u64 from rfl] at x7
        have eA : bits .and .u64 (f 0) 8 = bits .and .u64 (c 0) 8 := by rw [hf0]; exact unhide Hon
        have ep := u64_not1 pc p0 p1
        clear hf0
        generalize f 0 = f0 at *
        generalize d 0 = dz at *
        obtain ⟨A, hA⟩ : ∃ A, bits .and .u64 (c 0) 8 = A := ⟨_, rfl⟩
        rw [hA] at eA
        generalize c 0 = cz at *
        have hbel := hide h5.below
        clear h2 h3 h4 h5
        go_wp2
        go_ret
        exact ⟨rfl, unhide hbel⟩

end Go.Proofs.Ytijhlbkhcpkkdaa
