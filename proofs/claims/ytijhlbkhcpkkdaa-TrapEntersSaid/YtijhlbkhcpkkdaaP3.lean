/- Layer 13: Return. -/
import Derived.Test.YtijhlbkhcpkkdaaP2
namespace Go.Proofs.Ytijhlbkhcpkkdaa
open Go.RowKit

theorem upd_upd (c : St) (i : Nat) (x y : Int) : upd (upd c i x) i y = upd c i y := by
  funext j; unfold upd; split <;> rfl
theorem and_bd (x y : Int) (x0 : 0 ≤ x) (x1 : x < 18446744073709551616) (y0 : 0 ≤ y) (y1 : y < 18446744073709551616) : 0 ≤ bits .and .u64 x y ∧ bits .and .u64 x y ≤ y := by
  rw [u64_and x y x0 x1 y0 y1]
  have : x.toNat &&& y.toNat ≤ y.toNat := Nat.and_le_right
  omega
def mMode (m : Int) : Int := known (bits .and .u64 m 6144 / 2048)
def mRet (m : Int) : Int := let x := bits .or .u64 (bits .or .u64 (bits .andNot .u64 m 6152) (bits .and .u64 m 128 / 16)) 128
  if mMode m = 3 then x else bits .andNot .u64 x 131072
def sRet (m : Int) : Int := bits .or .u64 (bits .or .u64 (bits .andNot .u64 m 131330) (bits .and .u64 m 32 / 16)) 32
def sMode (m : Int) : Int := bits .and .u64 m 256 / 256
/-- What a return leaves: the registers, the mode, the place. -/
def rOut (c : St) (kind : Int) : St × Int × Int :=
  if kind = 49 then (upd c 0 (mRet (c 0)), mMode (c 0), c 6) else if kind = 50 then (upd c 0 (sRet (c 0)), sMode (c 0), c 15) else (c, 3, 0)
section
variable {w0 w : World} {L : List HP} {c : St} {b : Nat}
set_option maxRecDepth 100000 in
set_option maxHeartbeats 2000000 in
theorem return_h (h : Heap w0 w L) (hI : GI c) (kind : Int) :
    Calls Try.prog 11 #[.agg (gl c).toArray, .int .i64 kind] w fun r w' => r = .returned (.tuple #[.agg (gl (rOut c kind).1).toArray, .int .i64 (rOut c kind).2.1, .int .u64 (rOut c kind).2.2]) ∧ Heap w0 w' L := by
  have JA := ((h.new (gl c).toArray 26).new (gl Z0).toArray 26).f2
  obtain ⟨b, hb⟩ : ∃ b, w.heap.size = b := ⟨_, rfl⟩
  have hz := zero26
  have hz2 : (w.alloc (.cells (gl c).toArray 26)).heap.size = b + 1 := by rw [← hb]; simp
  rw [hz2, hb] at JA
  obtain ⟨m0, m1⟩ := hI.r 0 (by omega)
  go_enter Try.func11, Try.ntmps11
  go_upto_region 1 with fail
  generalize hw1 : ((w.alloc (Obj.cells (gl c).toArray 26)).alloc (Obj.cells (gl Z0).toArray 26)) = w1 at *
  clear hw1 hz hz2 hb
  have hlt := lt_of_heap' JA.heap
  have hlt2 := lt_of_heap' JA.f2.heap
  have d0 := (gcell JA.heap (i := 0) (by omega))
  rw [show gk 0 = .u64 from rfl] at d0
  by_cases q1 : kind = 49
  · subst q1
    have hX := and_bd (c 0) 6144 m0 m1 (by decide) (by decide)
    have hX4 : 0 ≤ bits .and .u64 (c 0) 6144 / 2048 ∧ bits .and .u64 (c 0) 6144 / 2048 ≤ 3 := by omega
    go_wp2_with fail
    refine (known_any (bits .and .u64 (c 0) 6144 / 2048) _).mono ?_
    rintro r w2 ⟨rfl, hw⟩
    replace hw := hw.symm
    subst hw
    have hmm : known (bits .and .u64 (c 0) 6144 / 2048) = mMode (c 0) := rfl
    rw [hmm]
    by_cases q3 : mMode (c 0) = 3
    · have Hq3 := hide q3
      rw [q3]
      go_wp2_with fail
      have h3 := (JA.gset 0 (bits .or .u64 (bits .or .u64 (bits .andNot .u64 (c 0) 6152) (bits .and .u64 (c 0) 128 / 16)) 128) (k := .u64) rfl)
      have Htv := hide (show (upd c 0 (bits .or .u64 (bits .or .u64 (bits .andNot .u64 (c 0) 6152) (bits .and .u64 (c 0) 128 / 16)) 128)) 6 = c 6 from rfl)
      generalize hdd : (upd c 0 (bits .or .u64 (bits .or .u64 (bits .andNot .u64 (c 0) 6152) (bits .and .u64 (c 0) 128 / 16)) 128)) = d at *
      obtain ⟨tv, htv⟩ : ∃ tv, c 6 = tv := ⟨_, rfl⟩
      rw [htv] at Htv
      have Htv2 := hide htv
      clear htv
      have Hdd := hide hdd
      clear hdd
      obtain ⟨vals, e0, e1, e2, e3, e4, e5, e6⟩ : ∃ vals : Nat → Value, vals 0 = .agg (gl d).toArray ∧ vals 1 = .int .i64 (3) ∧ vals 2 = .pointer (some ⟨b, 6, none⟩) ∧ vals 3 = .int .u64 tv ∧ vals 4 = undef ∧ vals 5 = .int .i64 (3) ∧ vals 6 = .int .u64 tv :=
        ⟨fun k_ => match k_ with
          | 0 => .agg (gl d).toArray
          | 1 => .int .i64 (3)
          | 2 => .pointer (some ⟨b, 6, none⟩)
          | 3 => .int .u64 tv
          | 4 => undef
          | 5 => .int .i64 (3)
          | _ => .int .u64 tv
          , rfl, rfl, rfl, rfl, rfl, rfl, rfl⟩
      refine wp_region_V (J1 4 (fun a1 w_ => Heap w0 w_ (HP.blk b (gl d).toArray 26 :: HP.blk (b + 1) (bif a1 then (gl d).toArray else (gl Z0).toArray) 26 :: L))) vals fol (by kernel_rfl) (J1.start ?_) ?_ ?_
      · exact h3.drew
      · show wpV _ _ _ _ 0 (_ :: _) _
        refine wpV_cons e0 (j1op (by decide) (Instr.loadAt 26 (.pointer (some ⟨b, 0, none⟩))) (.agg (gl d).toArray) fun a1 w_ hK => ?_) ?_
        · exact ⟨by kernel_rfl, by kernel_rfl, load_gl hK.heap⟩
        refine wpV_cons e1 (j1val (by decide) (.int .i64 (3)) fun a1 w_ hK => ?_) ?_
        · exact ⟨by kernel_rfl, by kernel_rfl⟩
        refine wpV_cons e2 (j1val (by decide) (.pointer (some ⟨b, 6, none⟩)) fun a1 w_ hK => ?_) ?_
        · exact ⟨by kernel_rfl, by kernel_rfl⟩
        refine wpV_cons e3 (j1op (by decide) (Instr.loadAt 22 (.pointer (some ⟨b, 6, none⟩))) (.int .u64 tv) fun a1 w_ hK => ?_) ?_
        · exact ⟨by kernel_rfl, by kernel_rfl, run_load1 (by kernel_rfl) (by rw [(gcell hK.heap (i := 6) (by omega)).1, unhide Htv]; rfl)⟩
        refine wpV_cons e4 (j1store (Instr.storeAt 26 (.pointer (some ⟨b + 1, 0, none⟩)) (.agg (gl d).toArray)) fun w_ hK => ?_) ?_
        · exact ⟨by kernel_rfl, by kernel_rfl, _, store_gl hK.f2.heap d, (store_h hK.f2).f2⟩
        refine wpV_cons e5 (j1val (by decide) (.int .i64 (3)) fun a1 w_ hK => ?_) ?_
        · exact ⟨by kernel_rfl, by kernel_rfl⟩
        refine wpV_cons e6 (j1val (by decide) (.int .u64 tv) fun a1 w_ hK => ?_) wpV_nil
        · exact ⟨by kernel_rfl, by kernel_rfl⟩
      · intro w_ hJ2
        have h5 := hJ2.done (by decide)
        simp only [cond_true] at h5
        clear hJ2
        simp only [fillG, Nat.zero_add, Nat.reduceAdd, e0, e1, e2, e3, e4, e5, e6, Act.put, List.setIfInBounds_toArray, List.set_cons_succ, List.set_cons_zero]
        clear e0 e1 e2 e3 e4 e5 e6
        go_wp2
        refine bodyPost_ret (v := .tuple #[.agg (gl d).toArray, .int .i64 (3), .int .u64 tv]) (res3 rfl rfl rfl rfl h5.f2.heap) rfl ⟨?_, h5.tail.tail⟩
        have hr : rOut c 49 = (upd c 0 (mRet (c 0)), mMode (c 0), c 6) := rfl
        rw [hr, unhide Hq3, ← unhide Hdd, unhide Htv2]
        have e : mRet (c 0) = (bits .or .u64 (bits .or .u64 (bits .andNot .u64 (c 0) 6152) (bits .and .u64 (c 0) 128 / 16)) 128) := by unfold mRet; rw [if_pos (unhide Hq3)]
        rw [e]
    · have zq : (mMode (c 0) == 3) = false := beq_eq_false_iff_ne.2 q3
      have zq' : (mMode (c 0) != 3) = true := bne_iff_ne.2 q3
      have Hq3 := hide q3
      go_wp2_with fail
      have h3 := ((JA.gset 0 (bits .or .u64 (bits .or .u64 (bits .andNot .u64 (c 0) 6152) (bits .and .u64 (c 0) 128 / 16)) 128) (k := .u64) rfl).gset 0 (bits .andNot .u64 (bits .or .u64 (bits .or .u64 (bits .andNot .u64 (c 0) 6152) (bits .and .u64 (c 0) 128 / 16)) 128) 131072) (k := .u64) rfl)
      have Htv := hide (show (upd (upd c 0 (bits .or .u64 (bits .or .u64 (bits .andNot .u64 (c 0) 6152) (bits .and .u64 (c 0) 128 / 16)) 128)) 0 (bits .andNot .u64 (bits .or .u64 (bits .or .u64 (bits .andNot .u64 (c 0) 6152) (bits .and .u64 (c 0) 128 / 16)) 128) 131072)) 6 = c 6 from rfl)
      generalize hdd : (upd (upd c 0 (bits .or .u64 (bits .or .u64 (bits .andNot .u64 (c 0) 6152) (bits .and .u64 (c 0) 128 / 16)) 128)) 0 (bits .andNot .u64 (bits .or .u64 (bits .or .u64 (bits .andNot .u64 (c 0) 6152) (bits .and .u64 (c 0) 128 / 16)) 128) 131072)) = d at *
      obtain ⟨tv, htv⟩ : ∃ tv, c 6 = tv := ⟨_, rfl⟩
      rw [htv] at Htv
      have Htv2 := hide htv
      clear htv
      have Hdd := hide hdd
      clear hdd
      obtain ⟨vals, e0, e1, e2, e3, e4, e5, e6⟩ : ∃ vals : Nat → Value, vals 0 = .agg (gl d).toArray ∧ vals 1 = .int .i64 (mMode (c 0)) ∧ vals 2 = .pointer (some ⟨b, 6, none⟩) ∧ vals 3 = .int .u64 tv ∧ vals 4 = undef ∧ vals 5 = .int .i64 (mMode (c 0)) ∧ vals 6 = .int .u64 tv :=
        ⟨fun k_ => match k_ with
          | 0 => .agg (gl d).toArray
          | 1 => .int .i64 (mMode (c 0))
          | 2 => .pointer (some ⟨b, 6, none⟩)
          | 3 => .int .u64 tv
          | 4 => undef
          | 5 => .int .i64 (mMode (c 0))
          | _ => .int .u64 tv
          , rfl, rfl, rfl, rfl, rfl, rfl, rfl⟩
      refine wp_region_V (J1 4 (fun a1 w_ => Heap w0 w_ (HP.blk b (gl d).toArray 26 :: HP.blk (b + 1) (bif a1 then (gl d).toArray else (gl Z0).toArray) 26 :: L))) vals fol (by kernel_rfl) (J1.start ?_) ?_ ?_
      · exact h3.drew
      · show wpV _ _ _ _ 0 (_ :: _) _
        refine wpV_cons e0 (j1op (by decide) (Instr.loadAt 26 (.pointer (some ⟨b, 0, none⟩))) (.agg (gl d).toArray) fun a1 w_ hK => ?_) ?_
        · exact ⟨by kernel_rfl, by kernel_rfl, load_gl hK.heap⟩
        refine wpV_cons e1 (j1val (by decide) (.int .i64 (mMode (c 0))) fun a1 w_ hK => ?_) ?_
        · exact ⟨by kernel_rfl, by kernel_rfl⟩
        refine wpV_cons e2 (j1val (by decide) (.pointer (some ⟨b, 6, none⟩)) fun a1 w_ hK => ?_) ?_
        · exact ⟨by kernel_rfl, by kernel_rfl⟩
        refine wpV_cons e3 (j1op (by decide) (Instr.loadAt 22 (.pointer (some ⟨b, 6, none⟩))) (.int .u64 tv) fun a1 w_ hK => ?_) ?_
        · exact ⟨by kernel_rfl, by kernel_rfl, run_load1 (by kernel_rfl) (by rw [(gcell hK.heap (i := 6) (by omega)).1, unhide Htv]; rfl)⟩
        refine wpV_cons e4 (j1store (Instr.storeAt 26 (.pointer (some ⟨b + 1, 0, none⟩)) (.agg (gl d).toArray)) fun w_ hK => ?_) ?_
        · exact ⟨by kernel_rfl, by kernel_rfl, _, store_gl hK.f2.heap d, (store_h hK.f2).f2⟩
        refine wpV_cons e5 (j1val (by decide) (.int .i64 (mMode (c 0))) fun a1 w_ hK => ?_) ?_
        · exact ⟨by kernel_rfl, by kernel_rfl⟩
        refine wpV_cons e6 (j1val (by decide) (.int .u64 tv) fun a1 w_ hK => ?_) wpV_nil
        · exact ⟨by kernel_rfl, by kernel_rfl⟩
      · intro w_ hJ2
        have h5 := hJ2.done (by decide)
        simp only [cond_true] at h5
        clear hJ2
        simp only [fillG, Nat.zero_add, Nat.reduceAdd, e0, e1, e2, e3, e4, e5, e6, Act.put, List.setIfInBounds_toArray, List.set_cons_succ, List.set_cons_zero]
        clear e0 e1 e2 e3 e4 e5 e6
        go_wp2
        refine bodyPost_ret (v := .tuple #[.agg (gl d).toArray, .int .i64 (mMode (c 0)), .int .u64 tv]) (res3 rfl rfl rfl rfl h5.f2.heap) rfl ⟨?_, h5.tail.tail⟩
        have hr : rOut c 49 = (upd c 0 (mRet (c 0)), mMode (c 0), c 6) := rfl
        rw [hr, ← unhide Hdd, unhide Htv2]
        have e : mRet (c 0) = bits .andNot .u64 (bits .or .u64 (bits .or .u64 (bits .andNot .u64 (c 0) 6152) (bits .and .u64 (c 0) 128 / 16)) 128) 131072 := by unfold mRet; rw [if_neg (unhide Hq3)]
        rw [e, upd_upd]
  · have z1 : (kind == 49) = false := beq_eq_false_iff_ne.2 q1
    by_cases q2 : kind = 50
    · subst q2
      have hX := and_bd (c 0) 256 m0 m1 (by decide) (by decide)
      have hX4 : 0 ≤ bits .and .u64 (c 0) 256 / 256 ∧ bits .and .u64 (c 0) 256 / 256 ≤ 1 := by omega
      go_wp2_with fail
      have h3 := (JA.gset 0 (bits .or .u64 (bits .or .u64 (bits .andNot .u64 (c 0) 131330) (bits .and .u64 (c 0) 32 / 16)) 32) (k := .u64) rfl)
      have Htv := hide (show (upd c 0 (bits .or .u64 (bits .or .u64 (bits .andNot .u64 (c 0) 131330) (bits .and .u64 (c 0) 32 / 16)) 32)) 15 = c 15 from rfl)
      generalize hdd : (upd c 0 (bits .or .u64 (bits .or .u64 (bits .andNot .u64 (c 0) 131330) (bits .and .u64 (c 0) 32 / 16)) 32)) = d at *
      obtain ⟨tv, htv⟩ : ∃ tv, c 15 = tv := ⟨_, rfl⟩
      rw [htv] at Htv
      have Htv2 := hide htv
      clear htv
      have Hdd := hide hdd
      clear hdd
      obtain ⟨vals, e0, e1, e2, e3, e4, e5, e6⟩ : ∃ vals : Nat → Value, vals 0 = .agg (gl d).toArray ∧ vals 1 = .int .i64 (bits .and .u64 (c 0) 256 / 256) ∧ vals 2 = .pointer (some ⟨b, 15, none⟩) ∧ vals 3 = .int .u64 tv ∧ vals 4 = undef ∧ vals 5 = .int .i64 (bits .and .u64 (c 0) 256 / 256) ∧ vals 6 = .int .u64 tv :=
        ⟨fun k_ => match k_ with
          | 0 => .agg (gl d).toArray
          | 1 => .int .i64 (bits .and .u64 (c 0) 256 / 256)
          | 2 => .pointer (some ⟨b, 15, none⟩)
          | 3 => .int .u64 tv
          | 4 => undef
          | 5 => .int .i64 (bits .and .u64 (c 0) 256 / 256)
          | _ => .int .u64 tv
          , rfl, rfl, rfl, rfl, rfl, rfl, rfl⟩
      refine wp_region_V (J1 4 (fun a1 w_ => Heap w0 w_ (HP.blk b (gl d).toArray 26 :: HP.blk (b + 1) (bif a1 then (gl d).toArray else (gl Z0).toArray) 26 :: L))) vals fol (by kernel_rfl) (J1.start ?_) ?_ ?_
      · exact h3.drew
      · show wpV _ _ _ _ 0 (_ :: _) _
        refine wpV_cons e0 (j1op (by decide) (Instr.loadAt 26 (.pointer (some ⟨b, 0, none⟩))) (.agg (gl d).toArray) fun a1 w_ hK => ?_) ?_
        · exact ⟨by kernel_rfl, by kernel_rfl, load_gl hK.heap⟩
        refine wpV_cons e1 (j1val (by decide) (.int .i64 (bits .and .u64 (c 0) 256 / 256)) fun a1 w_ hK => ?_) ?_
        · exact ⟨by kernel_rfl, by kernel_rfl⟩
        refine wpV_cons e2 (j1val (by decide) (.pointer (some ⟨b, 15, none⟩)) fun a1 w_ hK => ?_) ?_
        · exact ⟨by kernel_rfl, by kernel_rfl⟩
        refine wpV_cons e3 (j1op (by decide) (Instr.loadAt 22 (.pointer (some ⟨b, 15, none⟩))) (.int .u64 tv) fun a1 w_ hK => ?_) ?_
        · exact ⟨by kernel_rfl, by kernel_rfl, run_load1 (by kernel_rfl) (by rw [(gcell hK.heap (i := 15) (by omega)).1, unhide Htv]; rfl)⟩
        refine wpV_cons e4 (j1store (Instr.storeAt 26 (.pointer (some ⟨b + 1, 0, none⟩)) (.agg (gl d).toArray)) fun w_ hK => ?_) ?_
        · exact ⟨by kernel_rfl, by kernel_rfl, _, store_gl hK.f2.heap d, (store_h hK.f2).f2⟩
        refine wpV_cons e5 (j1val (by decide) (.int .i64 (bits .and .u64 (c 0) 256 / 256)) fun a1 w_ hK => ?_) ?_
        · exact ⟨by kernel_rfl, by kernel_rfl⟩
        refine wpV_cons e6 (j1val (by decide) (.int .u64 tv) fun a1 w_ hK => ?_) wpV_nil
        · exact ⟨by kernel_rfl, by kernel_rfl⟩
      · intro w_ hJ2
        have h5 := hJ2.done (by decide)
        simp only [cond_true] at h5
        clear hJ2
        simp only [fillG, Nat.zero_add, Nat.reduceAdd, e0, e1, e2, e3, e4, e5, e6, Act.put, List.setIfInBounds_toArray, List.set_cons_succ, List.set_cons_zero]
        clear e0 e1 e2 e3 e4 e5 e6
        go_wp2
        refine bodyPost_ret (v := .tuple #[.agg (gl d).toArray, .int .i64 (bits .and .u64 (c 0) 256 / 256), .int .u64 tv]) (res3 rfl rfl rfl rfl h5.f2.heap) rfl ⟨?_, h5.tail.tail⟩
        have hr : rOut c 50 = (upd c 0 (sRet (c 0)), sMode (c 0), c 15) := rfl
        rw [hr, ← unhide Hdd, unhide Htv2]
        rfl
    · have z2 : (kind == 50) = false := beq_eq_false_iff_ne.2 q2
      have hr : rOut c kind = (c, 3, 0) := by unfold rOut; rw [if_neg q1, if_neg q2]
      have Hth := hide (show w1.there (b + 1) 0 (gl c).toArray.size from there_blk JA.f2.heap (by rw [gl_len, List.size_toArray, gl_len]; omega))
      have Hr := hide hr
      clear hr
      go_upto_region 15 with fail
      have hrg := range_blk JA.heap 0 38 (gl c) (by rw [List.drop_zero]; exact List.take_of_length_le (by rw [gl_len]; exact Nat.le_refl _))
      go_wp2_with (refine wpList_load_mid rfl 26 (.tmp 2) rfl b 0 rfl (gl c) _ hrg Try.underlying26 rfl (by rw [gl_len]; exact isz26) ?_
                   refine unhide ?_)
      refine hide ?_
      clear hrg
      go_wp2_with (refine wpList_store_mid rfl 26 (.tmp 4) (.tmp 74) rfl (b + 1) 0 (gl c).toArray rfl rfl ?_ (by rw [List.size_toArray, gl_len]; exact isz26) (gl_one _) ?_
                   rotate_left
                   refine unhide ?_)
      rotate_left
      · exact unhide Hth
      have h5 := (store_h (d := c) JA.f2).f2
      change Hid (wpList _ _ _ _ _ (w1.setCells (b + 1) 0 (gl c)))
      generalize w1.setCells (b + 1) 0 (gl c) = w5 at *
      refine hide ?_
      go_wp2
      refine bodyPost_ret (v := .tuple #[.agg (gl c).toArray, .int .i64 3, .int .u64 0]) (res3 rfl rfl rfl rfl h5.f2.heap) rfl ⟨?_, h5.tail.tail⟩
      rw [unhide Hr]
end
end Go.Proofs.Ytijhlbkhcpkkdaa
