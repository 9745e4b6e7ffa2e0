/- Layer 13: the document's Return. -/
import Derived.Test.YtijhlbkhcpkkdaaP13
namespace Go.Proofs.Ytijhlbkhcpkkdaa
open Go.RowKit

theorem tb_rw (m n : Int) (b : Bool) (i : Nat) (hi : i < 64) (m0 : 0 ≤ m) (m1 : m < 18446744073709551616) (h0 : 0 ≤ n) (h1 : n < 64) : tb (rwith m n b) i = if n = (i : Int) then b else tb m i := by
  obtain ⟨k, rfl⟩ : ∃ k : Nat, n = k := ⟨n.toNat, by omega⟩
  rw [tb_rwith m k b i (by omega) hi m0 m1]
  by_cases h : k = i
  · rw [if_pos h, if_pos (by omega)]
  · rw [if_neg h, if_neg (by omega)]
theorem rw_bd (m n : Int) (b : Bool) (m0 : 0 ≤ m ∧ m < 18446744073709551616) (h0 : 0 ≤ n) (h1 : n < 64) : 0 ≤ rwith m n b ∧ rwith m n b < 18446744073709551616 := by
  obtain ⟨k, rfl⟩ : ∃ k : Nat, n = k := ⟨n.toNat, by omega⟩
  exact rwith_bd m k b (by omega) m0.1 m0.2
theorem rb_tb (m n : Int) (m0 : 0 ≤ m) (m1 : m < 18446744073709551616) (h0 : 0 ≤ n) : rbit m n = tb m n.toNat := by
  obtain ⟨k, rfl⟩ : ∃ k : Nat, n = k := ⟨n.toNat, by omega⟩
  exact rbit_tb m k m0 m1
def rM (m : Int) : Int := rwith (rwith (rwith (rwith m 3 (rbit m 7)) 7 true) 11 false) 12 false
def rS (m : Int) : Int := rwith (rwith (rwith (rwith m 1 (rbit m 5)) 5 true) 8 false) 17 false
theorem tb6152 : ∀ i, i < 64 → tb 6152 i = decide (i = 3 ∨ i = 11 ∨ i = 12) := by decide
theorem tb128 : ∀ i, i < 64 → tb 128 i = decide (i = 7) := by decide
theorem tb32 : ∀ i, i < 64 → tb 32 i = decide (i = 5) := by decide
theorem tb131072 : ∀ i, i < 64 → tb 131072 i = decide (i = 17) := by decide
theorem tb131330 : ∀ i, i < 64 → tb 131330 i = decide (i = 1 ∨ i = 8 ∨ i = 17) := by decide
theorem tbi8 (b : Bool) : ∀ i, i < 64 → tb (bi b 8) i = (decide (i = 3) && b) := by cases b <;> decide
theorem tbi2 (b : Bool) : ∀ i, i < 64 → tb (bi b 2) i = (decide (i = 1) && b) := by cases b <;> decide
theorem rM_bd (m : Int) (hm : 0 ≤ m ∧ m < 18446744073709551616) : 0 ≤ rM m ∧ rM m < 18446744073709551616 := by
  unfold rM
  exact rw_bd _ _ _ (rw_bd _ _ _ (rw_bd _ _ _ (rw_bd _ _ _ hm (by decide) (by decide)) (by decide) (by decide)) (by decide) (by decide)) (by decide) (by decide)
theorem rM_eq (m : Int) (hm : 0 ≤ m ∧ m < 18446744073709551616) : rM m = mX m := by
  have a1 := rw_bd m 3 (rbit m 7) hm (by decide) (by decide)
  have a2 := rw_bd _ 7 true a1 (by decide) (by decide)
  have a3 := rw_bd _ 11 false a2 (by decide) (by decide)
  have a4 := rM_bd m hm
  have b1 := mX_bd m hm.1 hm.2
  refine ext_tb a4.1 a4.2 b1.1 b1.2 fun i hi => ?_
  have h1 := andNot_bd m 6152 hm.1 hm.2 (by decide) (by decide)
  have h2 := bi_bd (tb m 7) 8 (by decide) (by decide)
  have h3 := or_bd _ _ h1.1 h1.2 h2.1 h2.2
  unfold rM mX
  rw [tb_or _ _ i h3.1 h3.2 (by decide) (by decide), tb_or _ _ i h1.1 h1.2 h2.1 h2.2, tb_andNot _ 6152 i hi hm.1 hm.2 (by decide) (by decide), tb6152 i hi, tb128 i hi, tbi8 _ i hi]
  rw [tb_rw _ 12 _ i hi a3.1 a3.2 (by decide) (by decide), tb_rw _ 11 _ i hi a2.1 a2.2 (by decide) (by decide), tb_rw _ 7 _ i hi a1.1 a1.2 (by decide) (by decide), tb_rw _ 3 _ i hi hm.1 hm.2 (by decide) (by decide), rb_tb m 7 hm.1 hm.2 (by decide)]
  by_cases q1 : i = 3
  · subst q1; simp
  · by_cases q2 : i = 7
    · subst q2; simp
    · by_cases q3 : i = 11
      · subst q3; simp
      · by_cases q4 : i = 12
        · subst q4; simp
        · rw [if_neg (by omega), if_neg (by omega), if_neg (by omega), if_neg (by omega)]
          simp [q1, q2, q3, q4]
theorem rM17_eq (m : Int) (hm : 0 ≤ m ∧ m < 18446744073709551616) : rwith (rM m) 17 false = bits .andNot .u64 (mX m) 131072 := by
  rw [rM_eq m hm]
  have b1 := mX_bd m hm.1 hm.2
  have a1 := rw_bd _ 17 false b1 (by decide) (by decide)
  have b2 := andNot_bd _ 131072 b1.1 b1.2 (by decide) (by decide)
  refine ext_tb a1.1 a1.2 b2.1 b2.2 fun i hi => ?_
  rw [tb_rw _ 17 _ i hi b1.1 b1.2 (by decide) (by decide), tb_andNot _ 131072 i hi b1.1 b1.2 (by decide) (by decide), tb131072 i hi]
  by_cases q1 : i = 17
  · subst q1; simp
  · rw [if_neg (by omega)]; simp [q1]
theorem rS_bd (m : Int) (hm : 0 ≤ m ∧ m < 18446744073709551616) : 0 ≤ rS m ∧ rS m < 18446744073709551616 := by
  unfold rS
  exact rw_bd _ _ _ (rw_bd _ _ _ (rw_bd _ _ _ (rw_bd _ _ _ hm (by decide) (by decide)) (by decide) (by decide)) (by decide) (by decide)) (by decide) (by decide)
theorem rS_eq (m : Int) (hm : 0 ≤ m ∧ m < 18446744073709551616) : rS m = sRet m := by
  have a1 := rw_bd m 1 (rbit m 5) hm (by decide) (by decide)
  have a2 := rw_bd _ 5 true a1 (by decide) (by decide)
  have a3 := rw_bd _ 8 false a2 (by decide) (by decide)
  have a4 := rS_bd m hm
  have b1 := sRet_bd m hm.1 hm.2
  refine ext_tb a4.1 a4.2 b1.1 b1.2 fun i hi => ?_
  have h1 := andNot_bd m 131330 hm.1 hm.2 (by decide) (by decide)
  have h2 := bi_bd (tb m 5) 2 (by decide) (by decide)
  have h3 := or_bd _ _ h1.1 h1.2 h2.1 h2.2
  rw [sRet_eq m hm.1 hm.2]
  unfold rS
  rw [tb_or _ _ i h3.1 h3.2 (by decide) (by decide), tb_or _ _ i h1.1 h1.2 h2.1 h2.2, tb_andNot _ 131330 i hi hm.1 hm.2 (by decide) (by decide), tb131330 i hi, tb32 i hi, tbi2 _ i hi]
  rw [tb_rw _ 17 _ i hi a3.1 a3.2 (by decide) (by decide), tb_rw _ 8 _ i hi a2.1 a2.2 (by decide) (by decide), tb_rw _ 5 _ i hi a1.1 a1.2 (by decide) (by decide), tb_rw _ 1 _ i hi hm.1 hm.2 (by decide) (by decide), rb_tb m 5 hm.1 hm.2 (by decide)]
  by_cases q1 : i = 1
  · subst q1; simp
  · by_cases q2 : i = 5
    · subst q2; simp
    · by_cases q3 : i = 8
      · subst q3; simp
      · by_cases q4 : i = 17
        · subst q4; simp
        · rw [if_neg (by omega), if_neg (by omega), if_neg (by omega), if_neg (by omega)]
          simp [q1, q2, q3, q4]
theorem sMode_b (m : Int) (m0 : 0 ≤ m) (m1 : m < 18446744073709551616) : sMode m = bif rbit m 8 then 1 else 0 := by
  unfold sMode
  rw [and_lit _ 8 256 rfl m0 m1 (by omega), rb_tb m 8 m0 m1 (by decide), show (8 : Int).toNat = 8 from rfl]
  cases tb m 8 <;> rfl
theorem mpp_eq (m : Int) (m0 : 0 ≤ m) (m1 : m < 18446744073709551616) : bits .and .u64 (m / 2048) 3 = bits .and .u64 m 6144 / 2048 := by
  rw [u64_and _ _ (by omega) (by omega) (by decide) (by decide), u64_and _ _ m0 m1 (by decide) (by decide)]
  obtain ⟨a, rfl⟩ : ∃ a : Nat, m = a := ⟨m.toNat, by omega⟩
  have h1 : ((a : Int) / 2048).toNat = a >>> 11 := by rw [Nat.shiftRight_eq_div_pow]; omega
  have h2 : (a &&& 6144) >>> 11 = a >>> 11 &&& 3 := Nat.shiftRight_and_distrib
  have h3 : ((3 : Int)).toNat = 3 := rfl
  have h4 : ((6144 : Int)).toNat = 6144 := rfl
  rw [h1, h3, h4, ← h2, Nat.shiftRight_eq_div_pow, Int.toNat_natCast]
  generalize a &&& 6144 = q
  rw [show (2 : Nat) ^ 11 = 2048 from rfl]
  omega
section
variable {w0 w : World} {L : List HP} {c : St} {b : Nat}
set_option maxRecDepth 100000 in
set_option maxHeartbeats 2000000 in
theorem rreturn_h (h : Heap w0 w L) (hI : GI c) (kind : Int) :
    Calls Try.prog 12 #[.agg (gl c).toArray, .int .i64 kind] w fun r w' => r = .returned (.tuple #[.agg (gl (rOut c kind).1).toArray, .int .i64 (rOut c kind).2.1, .int .u64 (rOut c kind).2.2]) ∧ Heap w0 w' L := by
  have JA := ((h.new (gl c).toArray 26).new (gl Z0).toArray 26).f2
  obtain ⟨b, hb⟩ : ∃ b, w.heap.size = b := ⟨_, rfl⟩
  have hz := zero26
  have hz2 : (w.alloc (.cells (gl c).toArray 26)).heap.size = b + 1 := by rw [← hb]; simp
  rw [hz2, hb] at JA
  have hm := hI.r 0 (by omega)
  obtain ⟨m0, m1⟩ := hm
  go_enter Try.func12, Try.ntmps12
  go_upto_region 1 with fail
  generalize hw1 : ((w.alloc (Obj.cells (gl c).toArray 26)).alloc (Obj.cells (gl Z0).toArray 26)) = w1 at *
  clear hw1 hz hz2 hb
  have hlt := lt_of_heap' JA.heap
  have hlt2 := lt_of_heap' JA.f2.heap
  have d0 := (gcell JA.heap (i := 0) (by omega))
  rw [show gk 0 = .u64 from rfl] at d0
  by_cases q1 : kind = 49
  · subst q1
    have hX := and_bd (c 0 / 2048) 3 (by omega) (by omega) (by decide) (by decide)
    have hX2 : 0 ≤ c 0 / 2048 ∧ c 0 / 2048 < 18446744073709551616 := by omega
    go_wp2_with fail
    refine (rmode_any (bits .and .u64 (c 0 / 2048) 3) _).mono ?_
    rintro r w2 ⟨rfl, hw⟩
    replace hw := hw.symm
    subst hw
    have hmm : known (bits .and .u64 (c 0 / 2048) 3) = mMode (c 0) := by rw [mpp_eq (c 0) m0 m1]; rfl
    rw [hmm]
    clear hX hX2
    by_cases q3 : mMode (c 0) = 3
    · have Hq3 := hide q3
      have HX : Hid (True = True) := hide rfl
      rw [q3]
      go_wp2_with (first | (go_at_call 18; refine (rbit_any _ _ (by decide) (by decide) _).mono ?_; (try rw [unhide HX]); rintro _ _ ⟨rfl, rfl⟩) | (go_at_call 19; refine (rwith_any _ _ _ (by decide) (by decide) _).mono ?_; rintro _ _ ⟨rfl, rfl⟩))
      have h3 := (JA.gset 0 (rM (c 0)) (k := .u64) rfl)
      have Htv := hide (show (upd c 0 (rM (c 0))) 6 = c 6 from rfl)
      have HE : Hid (upd c 0 (mRet (c 0)) = upd c 0 (rM (c 0))) := hide (by rw [mRet_eq (c 0) m0 m1, if_pos (unhide Hq3), rM_eq (c 0) ⟨m0, m1⟩])
      generalize upd c 0 (rM (c 0)) = d at h3 Htv HE
      obtain ⟨tv, htv⟩ : ∃ tv, c 6 = tv := ⟨_, rfl⟩
      rw [htv] at Htv
      have Htv2 := hide htv
      clear htv
      obtain ⟨vals, e0, e1, e2, e3, e4, e5, e6⟩ : ∃ vals : Nat → Value, vals 0 = .agg (gl d).toArray ∧ vals 1 = .int .i64 (3) ∧ vals 2 = .pointer (some ⟨b, 6, none⟩) ∧ vals 3 = .int .u64 tv ∧ vals 4 = undef ∧ vals 5 = .int .i64 (3) ∧ vals 6 = .int .u64 tv :=
        ⟨fun k_ => match k_ with
          | 0 => .agg (gl d).toArray
          | 1 => .int .i64 (3)
          | 2 => .pointer (some ⟨b, 6, none⟩)
          | 3 => .int .u64 tv
          | 4 => undef
          | 5 => .int .i64 (3)
          | _ => .int .u64 tv
          , rfl, rfl, rfl, rfl, rfl, rfl, rfl⟩
      refine wp_region_V (J1 4 (fun a1 w_ => Heap w0 w_ (HP.blk b (gl d).toArray 26 :: HP.blk (b + 1) (bif a1 then (gl d).toArray else (gl Z0).toArray) 26 :: L))) vals fol (by kernel_rfl) (J1.start ?_) ?_ ?_
      · exact h3.drew
      · show wpV _ _ _ _ 0 (_ :: _) _
        refine wpV_cons e0 (j1op (by decide) (Instr.loadAt 26 (.pointer (some ⟨b, 0, none⟩))) (.agg (gl d).toArray) fun a1 w_ hK => ?_) ?_
        · exact ⟨by kernel_rfl, by kernel_rfl, load_gl hK.heap⟩
        refine wpV_cons e1 (j1val (by decide) (.int .i64 (3)) fun a1 w_ hK => ?_) ?_
        · exact ⟨by kernel_rfl, by kernel_rfl⟩
        refine wpV_cons e2 (j1val (by decide) (.pointer (some ⟨b, 6, none⟩)) fun a1 w_ hK => ?_) ?_
        · exact ⟨by kernel_rfl, by kernel_rfl⟩
        refine wpV_cons e3 (j1op (by decide) (Instr.loadAt 22 (.pointer (some ⟨b, 6, none⟩))) (.int .u64 tv) fun a1 w_ hK => ?_) ?_
        · exact ⟨by kernel_rfl, by kernel_rfl, run_load1 (by kernel_rfl) (by rw [(gcell hK.heap (i := 6) (by omega)).1, unhide Htv]; rfl)⟩
        refine wpV_cons e4 (j1store (Instr.storeAt 26 (.pointer (some ⟨b + 1, 0, none⟩)) (.agg (gl d).toArray)) fun w_ hK => ?_) ?_
        · exact ⟨by kernel_rfl, by kernel_rfl, _, store_gl hK.f2.heap d, (store_h hK.f2).f2⟩
        refine wpV_cons e5 (j1val (by decide) (.int .i64 (3)) fun a1 w_ hK => ?_) ?_
        · exact ⟨by kernel_rfl, by kernel_rfl⟩
        refine wpV_cons e6 (j1val (by decide) (.int .u64 tv) fun a1 w_ hK => ?_) wpV_nil
        · exact ⟨by kernel_rfl, by kernel_rfl⟩
      · intro w_ hJ2
        have h5 := hJ2.done (by decide)
        simp only [cond_true] at h5
        clear hJ2
        simp only [fillG, Nat.zero_add, Nat.reduceAdd, e0, e1, e2, e3, e4, e5, e6, Act.put, List.setIfInBounds_toArray, List.set_cons_succ, List.set_cons_zero]
        clear e0 e1 e2 e3 e4 e5 e6
        go_wp2
        refine bodyPost_ret (v := .tuple #[.agg (gl d).toArray, .int .i64 (3), .int .u64 tv]) (res3 rfl rfl rfl rfl h5.f2.heap) rfl ⟨?_, h5.tail.tail⟩
        have hr : rOut c 49 = (upd c 0 (mRet (c 0)), mMode (c 0), c 6) := rfl
        rw [hr, unhide Hq3, unhide HE, unhide Htv2]
    · have zq : (mMode (c 0) == 3) = false := beq_eq_false_iff_ne.2 q3
      have zq' : (mMode (c 0) != 3) = true := bne_iff_ne.2 q3
      have Hq3 := hide q3
      have HX : Hid (True = True) := hide rfl
      go_wp2_with (first | (go_at_call 18; refine (rbit_any _ _ (by decide) (by decide) _).mono ?_; (try rw [unhide HX]); rintro _ _ ⟨rfl, rfl⟩) | (go_at_call 19; refine (rwith_any _ _ _ (by decide) (by decide) _).mono ?_; rintro _ _ ⟨rfl, rfl⟩))
      have h3 := (JA.gset 0 (rwith (rM (c 0)) 17 false) (k := .u64) rfl)
      have Htv := hide (show (upd c 0 (rwith (rM (c 0)) 17 false)) 6 = c 6 from rfl)
      have HE : Hid (upd c 0 (mRet (c 0)) = upd c 0 (rwith (rM (c 0)) 17 false)) := hide (by rw [mRet_eq (c 0) m0 m1, if_neg (unhide Hq3), rM17_eq (c 0) ⟨m0, m1⟩])
      generalize upd c 0 (rwith (rM (c 0)) 17 false) = d at h3 Htv HE
      obtain ⟨tv, htv⟩ : ∃ tv, c 6 = tv := ⟨_, rfl⟩
      rw [htv] at Htv
      have Htv2 := hide htv
      clear htv
      obtain ⟨vals, e0, e1, e2, e3, e4, e5, e6⟩ : ∃ vals : Nat → Value, vals 0 = .agg (gl d).toArray ∧ vals 1 = .int .i64 (mMode (c 0)) ∧ vals 2 = .pointer (some ⟨b, 6, none⟩) ∧ vals 3 = .int .u64 tv ∧ vals 4 = undef ∧ vals 5 = .int .i64 (mMode (c 0)) ∧ vals 6 = .int .u64 tv :=
        ⟨fun k_ => match k_ with
          | 0 => .agg (gl d).toArray
          | 1 => .int .i64 (mMode (c 0))
          | 2 => .pointer (some ⟨b, 6, none⟩)
          | 3 => .int .u64 tv
          | 4 => undef
          | 5 => .int .i64 (mMode (c 0))
          | _ => .int .u64 tv
          , rfl, rfl, rfl, rfl, rfl, rfl, rfl⟩
      refine wp_region_V (J1 4 (fun a1 w_ => Heap w0 w_ (HP.blk b (gl d).toArray 26 :: HP.blk (b + 1) (bif a1 then (gl d).toArray else (gl Z0).toArray) 26 :: L))) vals fol (by kernel_rfl) (J1.start ?_) ?_ ?_
      · exact h3.drew
      · show wpV _ _ _ _ 0 (_ :: _) _
        refine wpV_cons e0 (j1op (by decide) (Instr.loadAt 26 (.pointer (some ⟨b, 0, none⟩))) (.agg (gl d).toArray) fun a1 w_ hK => ?_) ?_
        · exact ⟨by kernel_rfl, by kernel_rfl, load_gl hK.heap⟩
        refine wpV_cons e1 (j1val (by decide) (.int .i64 (mMode (c 0))) fun a1 w_ hK => ?_) ?_
        · exact ⟨by kernel_rfl, by kernel_rfl⟩
        refine wpV_cons e2 (j1val (by decide) (.pointer (some ⟨b, 6, none⟩)) fun a1 w_ hK => ?_) ?_
        · exact ⟨by kernel_rfl, by kernel_rfl⟩
        refine wpV_cons e3 (j1op (by decide) (Instr.loadAt 22 (.pointer (some ⟨b, 6, none⟩))) (.int .u64 tv) fun a1 w_ hK => ?_) ?_
        · exact ⟨by kernel_rfl, by kernel_rfl, run_load1 (by kernel_rfl) (by rw [(gcell hK.heap (i := 6) (by omega)).1, unhide Htv]; rfl)⟩
        refine wpV_cons e4 (j1store (Instr.storeAt 26 (.pointer (some ⟨b + 1, 0, none⟩)) (.agg (gl d).toArray)) fun w_ hK => ?_) ?_
        · exact ⟨by kernel_rfl, by kernel_rfl, _, store_gl hK.f2.heap d, (store_h hK.f2).f2⟩
        refine wpV_cons e5 (j1val (by decide) (.int .i64 (mMode (c 0))) fun a1 w_ hK => ?_) ?_
        · exact ⟨by kernel_rfl, by kernel_rfl⟩
        refine wpV_cons e6 (j1val (by decide) (.int .u64 tv) fun a1 w_ hK => ?_) wpV_nil
        · exact ⟨by kernel_rfl, by kernel_rfl⟩
      · intro w_ hJ2
        have h5 := hJ2.done (by decide)
        simp only [cond_true] at h5
        clear hJ2
        simp only [fillG, Nat.zero_add, Nat.reduceAdd, e0, e1, e2, e3, e4, e5, e6, Act.put, List.setIfInBounds_toArray, List.set_cons_succ, List.set_cons_zero]
        clear e0 e1 e2 e3 e4 e5 e6
        go_wp2
        refine bodyPost_ret (v := .tuple #[.agg (gl d).toArray, .int .i64 (mMode (c 0)), .int .u64 tv]) (res3 rfl rfl rfl rfl h5.f2.heap) rfl ⟨?_, h5.tail.tail⟩
        have hr : rOut c 49 = (upd c 0 (mRet (c 0)), mMode (c 0), c 6) := rfl
        rw [hr, unhide HE, unhide Htv2]
  · have z1 : (kind == 49) = false := beq_eq_false_iff_ne.2 q1
    by_cases q2 : kind = 50
    · subst q2
      cases hx : rbit (c 0) 8
      · have HX := hide hx
        have HM : Hid (sMode (c 0) = 0) := hide (by rw [sMode_b (c 0) m0 m1, hx]; rfl)
        clear hx
        go_wp2_with (first | (go_at_call 18; refine (rbit_any _ _ (by decide) (by decide) _).mono ?_; (try rw [unhide HX]); rintro _ _ ⟨rfl, rfl⟩) | (go_at_call 19; refine (rwith_any _ _ _ (by decide) (by decide) _).mono ?_; rintro _ _ ⟨rfl, rfl⟩))
        have h3 := (JA.gset 0 (rS (c 0)) (k := .u64) rfl)
        have Htv := hide (show (upd c 0 (rS (c 0))) 15 = c 15 from rfl)
        have HE : Hid (upd c 0 (sRet (c 0)) = upd c 0 (rS (c 0))) := hide (by rw [rS_eq (c 0) ⟨m0, m1⟩])
        generalize upd c 0 (rS (c 0)) = d at h3 Htv HE
        obtain ⟨tv, htv⟩ : ∃ tv, c 15 = tv := ⟨_, rfl⟩
        rw [htv] at Htv
        have Htv2 := hide htv
        clear htv
        obtain ⟨vals, e0, e1, e2, e3, e4, e5, e6⟩ : ∃ vals : Nat → Value, vals 0 = .agg (gl d).toArray ∧ vals 1 = .int .i64 (0) ∧ vals 2 = .pointer (some ⟨b, 15, none⟩) ∧ vals 3 = .int .u64 tv ∧ vals 4 = undef ∧ vals 5 = .int .i64 (0) ∧ vals 6 = .int .u64 tv :=
          ⟨fun k_ => match k_ with
            | 0 => .agg (gl d).toArray
            | 1 => .int .i64 (0)
            | 2 => .pointer (some ⟨b, 15, none⟩)
            | 3 => .int .u64 tv
            | 4 => undef
            | 5 => .int .i64 (0)
            | _ => .int .u64 tv
            , rfl, rfl, rfl, rfl, rfl, rfl, rfl⟩
        refine wp_region_V (J1 4 (fun a1 w_ => Heap w0 w_ (HP.blk b (gl d).toArray 26 :: HP.blk (b + 1) (bif a1 then (gl d).toArray else (gl Z0).toArray) 26 :: L))) vals fol (by kernel_rfl) (J1.start ?_) ?_ ?_
        · exact h3.drew
        · show wpV _ _ _ _ 0 (_ :: _) _
          refine wpV_cons e0 (j1op (by decide) (Instr.loadAt 26 (.pointer (some ⟨b, 0, none⟩))) (.agg (gl d).toArray) fun a1 w_ hK => ?_) ?_
          · exact ⟨by kernel_rfl, by kernel_rfl, load_gl hK.heap⟩
          refine wpV_cons e1 (j1val (by decide) (.int .i64 (0)) fun a1 w_ hK => ?_) ?_
          · exact ⟨by kernel_rfl, by kernel_rfl⟩
          refine wpV_cons e2 (j1val (by decide) (.pointer (some ⟨b, 15, none⟩)) fun a1 w_ hK => ?_) ?_
          · exact ⟨by kernel_rfl, by kernel_rfl⟩
          refine wpV_cons e3 (j1op (by decide) (Instr.loadAt 22 (.pointer (some ⟨b, 15, none⟩))) (.int .u64 tv) fun a1 w_ hK => ?_) ?_
          · exact ⟨by kernel_rfl, by kernel_rfl, run_load1 (by kernel_rfl) (by rw [(gcell hK.heap (i := 15) (by omega)).1, unhide Htv]; rfl)⟩
          refine wpV_cons e4 (j1store (Instr.storeAt 26 (.pointer (some ⟨b + 1, 0, none⟩)) (.agg (gl d).toArray)) fun w_ hK => ?_) ?_
          · exact ⟨by kernel_rfl, by kernel_rfl, _, store_gl hK.f2.heap d, (store_h hK.f2).f2⟩
          refine wpV_cons e5 (j1val (by decide) (.int .i64 (0)) fun a1 w_ hK => ?_) ?_
          · exact ⟨by kernel_rfl, by kernel_rfl⟩
          refine wpV_cons e6 (j1val (by decide) (.int .u64 tv) fun a1 w_ hK => ?_) wpV_nil
          · exact ⟨by kernel_rfl, by kernel_rfl⟩
        · intro w_ hJ2
          have h5 := hJ2.done (by decide)
          simp only [cond_true] at h5
          clear hJ2
          simp only [fillG, Nat.zero_add, Nat.reduceAdd, e0, e1, e2, e3, e4, e5, e6, Act.put, List.setIfInBounds_toArray, List.set_cons_succ, List.set_cons_zero]
          clear e0 e1 e2 e3 e4 e5 e6
          go_wp2
          refine bodyPost_ret (v := .tuple #[.agg (gl d).toArray, .int .i64 (0), .int .u64 tv]) (res3 rfl rfl rfl rfl h5.f2.heap) rfl ⟨?_, h5.tail.tail⟩
          have hr : rOut c 50 = (upd c 0 (sRet (c 0)), sMode (c 0), c 15) := rfl
          rw [hr, unhide HE, unhide Htv2, unhide HM]
      · have HX := hide hx
        have HM : Hid (sMode (c 0) = 1) := hide (by rw [sMode_b (c 0) m0 m1, hx]; rfl)
        clear hx
        go_wp2_with (first | (go_at_call 18; refine (rbit_any _ _ (by decide) (by decide) _).mono ?_; (try rw [unhide HX]); rintro _ _ ⟨rfl, rfl⟩) | (go_at_call 19; refine (rwith_any _ _ _ (by decide) (by decide) _).mono ?_; rintro _ _ ⟨rfl, rfl⟩))
        have h3 := (JA.gset 0 (rS (c 0)) (k := .u64) rfl)
        have Htv := hide (show (upd c 0 (rS (c 0))) 15 = c 15 from rfl)
        have HE : Hid (upd c 0 (sRet (c 0)) = upd c 0 (rS (c 0))) := hide (by rw [rS_eq (c 0) ⟨m0, m1⟩])
        generalize upd c 0 (rS (c 0)) = d at h3 Htv HE
        obtain ⟨tv, htv⟩ : ∃ tv, c 15 = tv := ⟨_, rfl⟩
        rw [htv] at Htv
        have Htv2 := hide htv
        clear htv
        obtain ⟨vals, e0, e1, e2, e3, e4, e5, e6⟩ : ∃ vals : Nat → Value, vals 0 = .agg (gl d).toArray ∧ vals 1 = .int .i64 (1) ∧ vals 2 = .pointer (some ⟨b, 15, none⟩) ∧ vals 3 = .int .u64 tv ∧ vals 4 = undef ∧ vals 5 = .int .i64 (1) ∧ vals 6 = .int .u64 tv :=
          ⟨fun k_ => match k_ with
            | 0 => .agg (gl d).toArray
            | 1 => .int .i64 (1)
            | 2 => .pointer (some ⟨b, 15, none⟩)
            | 3 => .int .u64 tv
            | 4 => undef
            | 5 => .int .i64 (1)
            | _ => .int .u64 tv
            , rfl, rfl, rfl, rfl, rfl, rfl, rfl⟩
        refine wp_region_V (J1 4 (fun a1 w_ => Heap w0 w_ (HP.blk b (gl d).toArray 26 :: HP.blk (b + 1) (bif a1 then (gl d).toArray else (gl Z0).toArray) 26 :: L))) vals fol (by kernel_rfl) (J1.start ?_) ?_ ?_
        · exact h3.drew
        · show wpV _ _ _ _ 0 (_ :: _) _
          refine wpV_cons e0 (j1op (by decide) (Instr.loadAt 26 (.pointer (some ⟨b, 0, none⟩))) (.agg (gl d).toArray) fun a1 w_ hK => ?_) ?_
          · exact ⟨by kernel_rfl, by kernel_rfl, load_gl hK.heap⟩
          refine wpV_cons e1 (j1val (by decide) (.int .i64 (1)) fun a1 w_ hK => ?_) ?_
          · exact ⟨by kernel_rfl, by kernel_rfl⟩
          refine wpV_cons e2 (j1val (by decide) (.pointer (some ⟨b, 15, none⟩)) fun a1 w_ hK => ?_) ?_
          · exact ⟨by kernel_rfl, by kernel_rfl⟩
          refine wpV_cons e3 (j1op (by decide) (Instr.loadAt 22 (.pointer (some ⟨b, 15, none⟩))) (.int .u64 tv) fun a1 w_ hK => ?_) ?_
          · exact ⟨by kernel_rfl, by kernel_rfl, run_load1 (by kernel_rfl) (by rw [(gcell hK.heap (i := 15) (by omega)).1, unhide Htv]; rfl)⟩
          refine wpV_cons e4 (j1store (Instr.storeAt 26 (.pointer (some ⟨b + 1, 0, none⟩)) (.agg (gl d).toArray)) fun w_ hK => ?_) ?_
          · exact ⟨by kernel_rfl, by kernel_rfl, _, store_gl hK.f2.heap d, (store_h hK.f2).f2⟩
          refine wpV_cons e5 (j1val (by decide) (.int .i64 (1)) fun a1 w_ hK => ?_) ?_
          · exact ⟨by kernel_rfl, by kernel_rfl⟩
          refine wpV_cons e6 (j1val (by decide) (.int .u64 tv) fun a1 w_ hK => ?_) wpV_nil
          · exact ⟨by kernel_rfl, by kernel_rfl⟩
        · intro w_ hJ2
          have h5 := hJ2.done (by decide)
          simp only [cond_true] at h5
          clear hJ2
          simp only [fillG, Nat.zero_add, Nat.reduceAdd, e0, e1, e2, e3, e4, e5, e6, Act.put, List.setIfInBounds_toArray, List.set_cons_succ, List.set_cons_zero]
          clear e0 e1 e2 e3 e4 e5 e6
          go_wp2
          refine bodyPost_ret (v := .tuple #[.agg (gl d).toArray, .int .i64 (1), .int .u64 tv]) (res3 rfl rfl rfl rfl h5.f2.heap) rfl ⟨?_, h5.tail.tail⟩
          have hr : rOut c 50 = (upd c 0 (sRet (c 0)), sMode (c 0), c 15) := rfl
          rw [hr, unhide HE, unhide Htv2, unhide HM]
    · have z2 : (kind == 50) = false := beq_eq_false_iff_ne.2 q2
      have hr : rOut c kind = (c, 3, 0) := by unfold rOut; rw [if_neg q1, if_neg q2]
      have Hth := hide (show w1.there (b + 1) 0 (gl c).toArray.size from there_blk JA.f2.heap (by rw [gl_len, List.size_toArray, gl_len]; omega))
      have Hr := hide hr
      clear hr
      go_upto_region 18 with fail
      have hrg := range_blk JA.heap 0 38 (gl c) (by rw [List.drop_zero]; exact List.take_of_length_le (by rw [gl_len]; exact Nat.le_refl _))
      go_wp2_with (refine wpList_load_mid rfl 26 (.tmp 2) rfl b 0 rfl (gl c) _ hrg Try.underlying26 rfl (by rw [gl_len]; exact isz26) ?_
                   refine unhide ?_)
      refine hide ?_
      clear hrg
      go_wp2_with (refine wpList_store_mid rfl 26 (.tmp 4) (.tmp 55) rfl (b + 1) 0 (gl c).toArray rfl rfl ?_ (by rw [List.size_toArray, gl_len]; exact isz26) (gl_one _) ?_
                   rotate_left
                   refine unhide ?_)
      rotate_left
      · exact unhide Hth
      have h5 := (store_h (d := c) JA.f2).f2
      change Hid (wpList _ _ _ _ _ (w1.setCells (b + 1) 0 (gl c)))
      generalize w1.setCells (b + 1) 0 (gl c) = w5 at *
      refine hide ?_
      go_wp2
      refine bodyPost_ret (v := .tuple #[.agg (gl c).toArray, .int .i64 3, .int .u64 0]) (res3 rfl rfl rfl rfl h5.f2.heap) rfl ⟨?_, h5.tail.tail⟩
      rw [unhide Hr]
end
end Go.Proofs.Ytijhlbkhcpkkdaa
