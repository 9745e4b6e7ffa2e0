/- Layer 13: the document's Enter. -/
import Derived.Test.YtijhlbkhcpkkdaaP12
namespace Go.Proofs.Ytijhlbkhcpkkdaa
open Go.RowKit

def rSup (m : Int) (b : Bool) : Int := rwith (rwith (rwith m 8 b) 5 (rbit (rwith m 8 b) 1)) 1 false
def rMach (m : Int) (a b : Bool) : Int := rwith (rwith (rwith (rwith m 11 a) 12 b) 7 (rbit (rwith (rwith m 11 a) 12 b) 3)) 3 false
theorem tb290 : ∀ i, i < 64 → tb 290 i = decide (i = 1 ∨ i = 5 ∨ i = 8) := by decide
theorem tb6280 : ∀ i, i < 64 → tb 6280 i = decide (i = 3 ∨ i = 7 ∨ i = 11 ∨ i = 12) := by decide
theorem tbS (b : Bool) (k : Int) (hk : k = 0 ∨ k = 1) : ∀ i, i < 64 → tb (bi b 32 + k * 256) i = ((decide (i = 5) && b) || (decide (i = 8) && decide (k = 1))) := by
  rcases hk with rfl | rfl <;> cases b <;> decide
theorem tbM (b : Bool) (k : Int) (hk : k = 0 ∨ k = 1 ∨ k = 3) : ∀ i, i < 64 → tb (bi b 128 + k * 2048) i = ((decide (i = 7) && b) || (decide (i = 11) && decide (k = 1 ∨ k = 3)) || (decide (i = 12) && decide (k = 3))) := by
  rcases hk with rfl | rfl | rfl <;> cases b <;> decide
theorem rSup_eq (m k : Int) (m0 : 0 ≤ m) (m1 : m < 18446744073709551616) (hk : k = 0 ∨ k = 1) : rSup m (decide (k = 1)) = mSup m k := by
  have a1 := rwith_bd m 8 (decide (k = 1)) (by omega) m0 m1
  have a2 := rwith_bd (rwith m 8 (decide (k = 1))) 5 (rbit (rwith m 8 (decide (k = 1))) 1) (by omega) a1.1 a1.2
  have a3 := rwith_bd _ 1 false (by omega) a2.1 a2.2
  have b1 := mSup_bd m k m0 m1 hk
  refine ext_tb a3.1 a3.2 b1.1 b1.2 fun i hi => ?_
  have e1 := tb_rwith m 8 (decide (k = 1)) i (by omega) hi m0 m1
  have e1' := tb_rwith m 8 (decide (k = 1)) 1 (by omega) (by omega) m0 m1
  have e2 := tb_rwith (rwith m 8 (decide (k = 1))) 5 (rbit (rwith m 8 (decide (k = 1))) 1) i (by omega) hi a1.1 a1.2
  have e3 := tb_rwith _ 1 false i (by omega) hi a2.1 a2.2
  have e4 : rbit (rwith m 8 (decide (k = 1))) 1 = tb m 1 := by
    have := rbit_tb (rwith m 8 (decide (k = 1))) 1 a1.1 a1.2
    exact this.trans (e1'.trans (if_neg (by omega)))
  unfold rSup
  refine e3.trans ?_
  rw [tb_mSup m k i hi m0 m1 hk, tb290 i hi, tbS _ k hk i hi]
  refine (congrArg (fun x => if 1 = i then false else x) (e2.trans (congrArg (fun x => if 5 = i then _ else x) e1))).trans ?_
  rw [e4]
  by_cases h1 : i = 1
  · subst h1; simp
  · by_cases h5 : i = 5
    · subst h5; simp
    · by_cases h8 : i = 8
      · subst h8; simp
      · simp [Ne.symm h1, Ne.symm h5, Ne.symm h8, h1, h5, h8]
theorem rMach_eq (m k : Int) (m0 : 0 ≤ m) (m1 : m < 18446744073709551616) (hk : k = 0 ∨ k = 1 ∨ k = 3) : rMach m (decide (k = 1 ∨ k = 3)) (decide (k = 3)) = mMach m k := by
  generalize ha : decide (k = 1 ∨ k = 3) = a
  generalize hb : decide (k = 3) = b
  have a1 := rwith_bd m 11 a (by omega) m0 m1
  have a2 := rwith_bd (rwith m 11 a) 12 b (by omega) a1.1 a1.2
  have a3 := rwith_bd (rwith (rwith m 11 a) 12 b) 7 (rbit (rwith (rwith m 11 a) 12 b) 3) (by omega) a2.1 a2.2
  have a4 := rwith_bd _ 3 false (by omega) a3.1 a3.2
  have b1 := mMach_bd m k m0 m1 hk
  refine ext_tb a4.1 a4.2 b1.1 b1.2 fun i hi => ?_
  have e1 := tb_rwith m 11 a i (by omega) hi m0 m1
  have e2 := tb_rwith (rwith m 11 a) 12 b i (by omega) hi a1.1 a1.2
  have e1' := tb_rwith m 11 a 3 (by omega) (by omega) m0 m1
  have e2' := tb_rwith (rwith m 11 a) 12 b 3 (by omega) (by omega) a1.1 a1.2
  have e3 := tb_rwith (rwith (rwith m 11 a) 12 b) 7 (rbit (rwith (rwith m 11 a) 12 b) 3) i (by omega) hi a2.1 a2.2
  have e4 := tb_rwith _ 3 false i (by omega) hi a3.1 a3.2
  have e5 : rbit (rwith (rwith m 11 a) 12 b) 3 = tb m 3 := by
    have := rbit_tb (rwith (rwith m 11 a) 12 b) 3 a2.1 a2.2
    exact this.trans (e2'.trans ((if_neg (by omega)).trans (e1'.trans (if_neg (by omega)))))
  unfold rMach
  refine e4.trans ?_
  rw [tb_mMach m k i hi m0 m1 hk, tb6280 i hi, tbM _ k hk i hi, ha, hb]
  refine (congrArg (fun x => if 3 = i then false else x) (e3.trans (congrArg (fun x => if 7 = i then _ else x) (e2.trans (congrArg (fun x => if 12 = i then _ else x) e1))))).trans ?_
  rw [e5]
  by_cases h1 : i = 3
  · subst h1; simp
  · by_cases h5 : i = 7
    · subst h5; simp
    · by_cases h8 : i = 11
      · subst h8; simp
      · by_cases h9 : i = 12
        · subst h9; simp
        · simp [Ne.symm h1, Ne.symm h5, Ne.symm h8, h1, h5, h8, h9, Ne.symm h9]
section
variable {w0 w : World} {L : List HP} {c : St} {b : Nat}
theorem rbit63 (cause : Int) (c0 : 0 ≤ cause) (c1 : cause < 18446744073709551616) : rbit cause 63 = decide (9223372036854775808 ≤ cause) := by
  unfold rbit
  rw [show (2 : Int) ^ (63 : Int).toNat = 9223372036854775808 from rfl, u64_mask1 _ (by omega) (by omega)]
  have : cause / 9223372036854775808 % 2 = 1 ↔ 9223372036854775808 ≤ cause := by omega
  by_cases h : 9223372036854775808 ≤ cause
  · rw [this.2 h]; simp [h]
  · have h' : ¬ cause / 9223372036854775808 % 2 = 1 := fun e => h (this.1 e)
    simp [h, h']
set_option maxRecDepth 100000 in
set_option maxHeartbeats 2000000 in
theorem renter_h (h : Heap w0 w L) (hI : GI c) (mode pc cause tval : Int) (p0 : 0 ≤ pc) (p1 : pc < 18446744073709551616) (c0 : 0 ≤ cause) (c1 : cause < 18446744073709551616) (t0 : 0 ≤ tval) (t1 : tval < 18446744073709551616) :
    Calls Try.prog 10 #[.agg (gl c).toArray, .int .i64 mode, .int .u64 pc, .int .u64 cause, .int .u64 tval] w fun r w' =>
      ((sup c mode cause ∧ r = .returned (.tuple #[.agg (gl (eSup c (known mode) pc cause tval)).toArray, .int .i64 1, .int .u64 (vector (c 14) cause)])) ∨
       (¬ sup c mode cause ∧ r = .returned (.tuple #[.agg (gl (eMach c (known mode) pc cause tval)).toArray, .int .i64 3, .int .u64 (vector (c 1) cause)]))) ∧ Heap w0 w' L := by
  have JA := ((h.new (gl c).toArray 26).new (gl Z0).toArray 26).f2
  obtain ⟨b, hb⟩ : ∃ b, w.heap.size = b := ⟨_, rfl⟩
  have hz := zero26
  have hz2 : (w.alloc (.cells (gl c).toArray 26)).heap.size = b + 1 := by rw [← hb]; simp
  rw [hz2, hb] at JA
  have e63 := and63 cause c0 c1
  have ep := u64_not1 pc p0 p1
  have hkc := known_cases mode
  have Hbd : Hid (0 ≤ c 14 ∧ c 14 < 18446744073709551616) := hide (hI.r 14 (by omega))
  have Hbd1 : Hid (0 ≤ c 1 ∧ c 1 < 18446744073709551616) := hide (hI.r 1 (by omega))
  have hg3 := hI.r 3 (by omega)
  have hg2 := hI.r 2 (by omega)
  have hm := hI.r 0 (by omega)
  have hgv : 0 ≤ given c cause ∧ given c cause < 18446744073709551616 := by unfold given; split <;> assumption
  have HB := hide (rbit63 cause c0 c1)
  go_enter Try.func10, Try.ntmps10
  go_wp2_with fail
  refine (rmode_any mode _).mono ?_
  rintro r w1 ⟨rfl, hw⟩
  rw [← hw] at JA
  clear hw hz hz2 hb
  have hlt := lt_of_heap' JA.heap
  have d0 := (gcell JA.heap (i := 0) (by omega))
  rw [show gk 0 = .u64 from rfl] at d0
  have d1 := (gcell JA.heap (i := 1) (by omega))
  rw [show gk 1 = .u64 from rfl] at d1
  have d2 := (gcell JA.heap (i := 2) (by omega))
  rw [show gk 2 = .u64 from rfl] at d2
  have d3 := (gcell JA.heap (i := 3) (by omega))
  rw [show gk 3 = .u64 from rfl] at d3
  have d6 := (gcell JA.heap (i := 6) (by omega))
  rw [show gk 6 = .u64 from rfl] at d6
  have d7 := (gcell JA.heap (i := 7) (by omega))
  rw [show gk 7 = .u64 from rfl] at d7
  have d8 := (gcell JA.heap (i := 8) (by omega))
  rw [show gk 8 = .u64 from rfl] at d8
  have d14 := (gcell JA.heap (i := 14) (by omega))
  rw [show gk 14 = .u64 from rfl] at d14
  have d15 := (gcell JA.heap (i := 15) (by omega))
  rw [show gk 15 = .u64 from rfl] at d15
  have d16 := (gcell JA.heap (i := 16) (by omega))
  rw [show gk 16 = .u64 from rfl] at d16
  have d17 := (gcell JA.heap (i := 17) (by omega))
  rw [show gk 17 = .u64 from rfl] at d17
  obtain ⟨k, hk⟩ : ∃ k, known mode = k := ⟨_, rfl⟩
  rw [hk] at hkc ⊢
  go_upto_if 20 with (go_at_call 18; refine (rbit_any _ _ (by decide) (by decide) _).mono ?_; rw [unhide HB]; rintro _ w1 ⟨rfl, rfl⟩)
  go_cut [13] (fun s13 wx => s13 = .int .u64 (given c cause) ∧ wx = w1)
  case first =>
    by_cases hq : 9223372036854775808 ≤ cause
    · rw [decide_eq_true hq]
      go_wp2
      go_meet
      exact ⟨by unfold given; rw [if_pos hq], rfl⟩
    · rw [decide_eq_false hq]
      go_wp2
      go_meet
      exact ⟨by unfold given; rw [if_neg (by omega)], rfl⟩
  case rest =>
    obtain ⟨rfl, hw⟩ := hcut
    rw [hw]
    clear hw
    have hsup : sup c mode cause ↔ (k ≠ 3 ∧ given c cause / 2 ^ (cause % 64).toNat % 2 = 1) := by unfold sup; rw [hk]
    have Hsup := hide hsup
    clear hsup
    generalize given c cause = gvn at *
    have hgb : 0 ≤ gvn / 2 ^ (cause % 64).toNat ∧ gvn / 2 ^ (cause % 64).toNat < 18446744073709551616 := by
      have hp : (0 : Int) < 2 ^ (cause % 64).toNat := Int.pow_pos (by decide)
      refine ⟨Int.ediv_nonneg hgv.1 (by omega), ?_⟩
      have := Int.ediv_le_self (b := 2 ^ (cause % 64).toNat) hgv.1
      omega
    have hX0 : rbit gvn (cause % 64) = decide (gvn / 2 ^ (cause % 64).toNat % 2 = 1) := by
      unfold rbit
      rw [u64_mask1 (gvn / 2 ^ (cause % 64).toNat) hgb.1 hgb.2]
      by_cases h : gvn / 2 ^ (cause % 64).toNat % 2 = 1 <;> simp [h]
    generalize hXX : gvn / 2 ^ (cause % 64).toNat % 2 = X at *
    clear hXX
    by_cases hk3 : k = 3
    · subst hk3
      have hns : ¬ sup c mode cause := by rw [unhide Hsup]; exact fun h => h.1 rfl
      have Hns := hide hns
      clear hns
      have HX : Hid (rbit gvn (cause % 64) = rbit gvn (cause % 64)) := hide rfl
      go_wp2_with (first | (go_at_call 18; refine (rbit_any _ _ (by first | decide | omega) (by first | decide | omega) _).mono ?_; rintro _ _ ⟨rfl, rfl⟩) | (go_at_call 19; refine (rwith_any _ _ _ (by decide) (by decide) _).mono ?_; rintro _ _ ⟨rfl, rfl⟩))
      have h3 := ((((JA.gset 6 (pc / 2 * 2) (k := .u64) rfl).gset 7 cause (k := .u64) rfl).gset 8 tval (k := .u64) rfl).gset 0 (rMach (c 0) true true) (k := .u64) rfl)
      have Htv := hide (show (upd (upd (upd (upd c 6 (pc / 2 * 2)) 7 cause) 8 tval) 0 (rMach (c 0) true true)) 1 = c 1 from rfl)
      have HE : Hid (eMach c 3 pc cause tval = upd (upd (upd (upd c 6 (pc / 2 * 2)) 7 cause) 8 tval) 0 (rMach (c 0) true true)) := hide (by unfold eMach; rw [upd_upd, ← rMach_eq (c 0) 3 hm.1 hm.2 (by decide)]; rfl)
      generalize upd (upd (upd (upd c 6 (pc / 2 * 2)) 7 cause) 8 tval) 0 (rMach (c 0) true true) = d at h3 Htv HE
      obtain ⟨tv, htv⟩ : ∃ tv, c 1 = tv := ⟨_, rfl⟩
      rw [htv] at Htv Hbd1
      have Hbd := Hbd1
      have Htv2 := hide htv
      clear htv
      obtain ⟨vals, e0, e1, e2, e3, e4, e5, e6, e7⟩ : ∃ vals : Nat → Value, vals 0 = .agg (gl d).toArray ∧ vals 1 = .pointer (some ⟨b, 1, none⟩) ∧ vals 2 = .int .u64 tv ∧ vals 3 = .int .u64 cause ∧ vals 4 = .int .u64 (vector tv cause) ∧ vals 5 = undef ∧ vals 6 = .int .i64 3 ∧ vals 7 = .int .u64 (vector tv cause) :=
        ⟨fun k_ => match k_ with
          | 0 => .agg (gl d).toArray
          | 1 => .pointer (some ⟨b, 1, none⟩)
          | 2 => .int .u64 tv
          | 3 => .int .u64 cause
          | 4 => .int .u64 (vector tv cause)
          | 5 => undef
          | 6 => .int .i64 3
          | _ => .int .u64 (vector tv cause)
          , rfl, rfl, rfl, rfl, rfl, rfl, rfl, rfl⟩
      refine wp_region_V (J1 5 (fun a1 w_ => Heap w0 w_ (HP.blk b (gl d).toArray 26 :: HP.blk (b + 1) (bif a1 then (gl d).toArray else (gl Z0).toArray) 26 :: L))) vals fol (by kernel_rfl) (J1.start ?_) ?_ ?_
      · exact h3.drew
      · show wpV _ _ _ _ 0 (_ :: _) _
        refine wpV_cons e0 (j1op (by decide) (Instr.loadAt 26 (.pointer (some ⟨b, 0, none⟩))) (.agg (gl d).toArray) fun a1 w_ hK => ?_) ?_
        · exact ⟨by kernel_rfl, by kernel_rfl, load_gl hK.heap⟩
        refine wpV_cons e1 (j1val (by decide) (.pointer (some ⟨b, 1, none⟩)) fun a1 w_ hK => ?_) ?_
        · exact ⟨by kernel_rfl, by kernel_rfl⟩
        refine wpV_cons e2 (j1op (by decide) (Instr.loadAt 22 (.pointer (some ⟨b, 1, none⟩))) (.int .u64 tv) fun a1 w_ hK => ?_) ?_
        · exact ⟨by kernel_rfl, by kernel_rfl, run_load1 (by kernel_rfl) (by rw [(gcell hK.heap (i := 1) (by omega)).1, unhide Htv]; rfl)⟩
        refine wpV_cons e3 (j1val (by decide) (.int .u64 cause) fun a1 w_ hK => ?_) ?_
        · exact ⟨by kernel_rfl, by kernel_rfl⟩
        refine wpV_cons e4 (j1call (by decide) 20 #[.int .u64 tv, .int .u64 cause] (.int .u64 (vector tv cause)) fun a1 w_ hK => ?_) ?_
        · exact ⟨by kernel_rfl, by kernel_rfl, (rvector_any tv cause (unhide Hbd).1 (unhide Hbd).2 c0 c1 w_).mono fun e w2 ⟨he, hw⟩ => ⟨he, by rw [hw]; exact hK⟩⟩
        refine wpV_cons e5 (j1store (Instr.storeAt 26 (.pointer (some ⟨b + 1, 0, none⟩)) (.agg (gl d).toArray)) fun w_ hK => ?_) ?_
        · exact ⟨by kernel_rfl, by kernel_rfl, _, store_gl hK.f2.heap d, (store_h hK.f2).f2⟩
        refine wpV_cons e6 (j1val (by decide) (.int .i64 3) fun a1 w_ hK => ?_) ?_
        · exact ⟨by kernel_rfl, by kernel_rfl⟩
        refine wpV_cons e7 (j1val (by decide) (.int .u64 (vector tv cause)) fun a1 w_ hK => ?_) wpV_nil
        · exact ⟨by kernel_rfl, by kernel_rfl⟩
      · intro w_ hJ2
        have h5 := hJ2.done (by decide)
        simp only [cond_true] at h5
        clear hJ2
        simp only [fillG, Nat.zero_add, Nat.reduceAdd, e0, e1, e2, e3, e4, e5, e6, e7, Act.put, List.setIfInBounds_toArray, List.set_cons_succ, List.set_cons_zero]
        clear e0 e1 e2 e3 e4 e5 e6 e7
        go_wp2
        refine bodyPost_ret (v := .tuple #[.agg (gl d).toArray, .int .i64 3, .int .u64 (vector tv cause)]) (res3 rfl rfl rfl rfl h5.f2.heap) rfl ⟨?_, h5.tail.tail⟩
        exact .inr ⟨unhide Hns, by rw [hk, unhide HE, unhide Htv2]⟩
    · have hk01 : k = 0 ∨ k = 1 := by omega
      rcases hk01 with rfl | rfl
      · by_cases hX1 : X = 1
        · subst hX1
          have hns : sup c mode cause := by rw [unhide Hsup]; exact ⟨hk3, rfl⟩
          have Hns := hide hns
          rw [decide_eq_true (rfl : (1 : Int) = 1)] at hX0
          have HX := hide hX0
          clear hns hX0
          go_wp2_with (first | (go_at_call 18; refine (rbit_any _ _ (by first | decide | omega) (by first | decide | omega) _).mono ?_; (try rw [unhide HX]); rintro _ _ ⟨rfl, rfl⟩) | (go_at_call 19; refine (rwith_any _ _ _ (by decide) (by decide) _).mono ?_; rintro _ _ ⟨rfl, rfl⟩))
          have h3 := ((((JA.gset 15 (pc / 2 * 2) (k := .u64) rfl).gset 16 cause (k := .u64) rfl).gset 17 tval (k := .u64) rfl).gset 0 (rSup (c 0) false) (k := .u64) rfl)
          have Htv := hide (show (upd (upd (upd (upd c 15 (pc / 2 * 2)) 16 cause) 17 tval) 0 (rSup (c 0) false)) 14 = c 14 from rfl)
          have HE : Hid (eSup c 0 pc cause tval = upd (upd (upd (upd c 15 (pc / 2 * 2)) 16 cause) 17 tval) 0 (rSup (c 0) false)) := hide (by unfold eSup; rw [upd_upd, ← rSup_eq (c 0) 0 hm.1 hm.2 (by decide)]; rfl)
          generalize upd (upd (upd (upd c 15 (pc / 2 * 2)) 16 cause) 17 tval) 0 (rSup (c 0) false) = d at h3 Htv HE
          obtain ⟨tv, htv⟩ : ∃ tv, c 14 = tv := ⟨_, rfl⟩
          rw [htv] at Htv Hbd
          have Htv2 := hide htv
          clear htv
          obtain ⟨vals, e0, e1, e2, e3, e4, e5, e6, e7⟩ : ∃ vals : Nat → Value, vals 0 = .agg (gl d).toArray ∧ vals 1 = .pointer (some ⟨b, 14, none⟩) ∧ vals 2 = .int .u64 tv ∧ vals 3 = .int .u64 cause ∧ vals 4 = .int .u64 (vector tv cause) ∧ vals 5 = undef ∧ vals 6 = .int .i64 1 ∧ vals 7 = .int .u64 (vector tv cause) :=
            ⟨fun k_ => match k_ with
              | 0 => .agg (gl d).toArray
              | 1 => .pointer (some ⟨b, 14, none⟩)
              | 2 => .int .u64 tv
              | 3 => .int .u64 cause
              | 4 => .int .u64 (vector tv cause)
              | 5 => undef
              | 6 => .int .i64 1
              | _ => .int .u64 (vector tv cause)
              , rfl, rfl, rfl, rfl, rfl, rfl, rfl, rfl⟩
          refine wp_region_V (J1 5 (fun a1 w_ => Heap w0 w_ (HP.blk b (gl d).toArray 26 :: HP.blk (b + 1) (bif a1 then (gl d).toArray else (gl Z0).toArray) 26 :: L))) vals fol (by kernel_rfl) (J1.start ?_) ?_ ?_
          · exact h3.drew
          · show wpV _ _ _ _ 0 (_ :: _) _
            refine wpV_cons e0 (j1op (by decide) (Instr.loadAt 26 (.pointer (some ⟨b, 0, none⟩))) (.agg (gl d).toArray) fun a1 w_ hK => ?_) ?_
            · exact ⟨by kernel_rfl, by kernel_rfl, load_gl hK.heap⟩
            refine wpV_cons e1 (j1val (by decide) (.pointer (some ⟨b, 14, none⟩)) fun a1 w_ hK => ?_) ?_
            · exact ⟨by kernel_rfl, by kernel_rfl⟩
            refine wpV_cons e2 (j1op (by decide) (Instr.loadAt 22 (.pointer (some ⟨b, 14, none⟩))) (.int .u64 tv) fun a1 w_ hK => ?_) ?_
            · exact ⟨by kernel_rfl, by kernel_rfl, run_load1 (by kernel_rfl) (by rw [(gcell hK.heap (i := 14) (by omega)).1, unhide Htv]; rfl)⟩
            refine wpV_cons e3 (j1val (by decide) (.int .u64 cause) fun a1 w_ hK => ?_) ?_
            · exact ⟨by kernel_rfl, by kernel_rfl⟩
            refine wpV_cons e4 (j1call (by decide) 20 #[.int .u64 tv, .int .u64 cause] (.int .u64 (vector tv cause)) fun a1 w_ hK => ?_) ?_
            · exact ⟨by kernel_rfl, by kernel_rfl, (rvector_any tv cause (unhide Hbd).1 (unhide Hbd).2 c0 c1 w_).mono fun e w2 ⟨he, hw⟩ => ⟨he, by rw [hw]; exact hK⟩⟩
            refine wpV_cons e5 (j1store (Instr.storeAt 26 (.pointer (some ⟨b + 1, 0, none⟩)) (.agg (gl d).toArray)) fun w_ hK => ?_) ?_
            · exact ⟨by kernel_rfl, by kernel_rfl, _, store_gl hK.f2.heap d, (store_h hK.f2).f2⟩
            refine wpV_cons e6 (j1val (by decide) (.int .i64 1) fun a1 w_ hK => ?_) ?_
            · exact ⟨by kernel_rfl, by kernel_rfl⟩
            refine wpV_cons e7 (j1val (by decide) (.int .u64 (vector tv cause)) fun a1 w_ hK => ?_) wpV_nil
            · exact ⟨by kernel_rfl, by kernel_rfl⟩
          · intro w_ hJ2
            have h5 := hJ2.done (by decide)
            simp only [cond_true] at h5
            clear hJ2
            simp only [fillG, Nat.zero_add, Nat.reduceAdd, e0, e1, e2, e3, e4, e5, e6, e7, Act.put, List.setIfInBounds_toArray, List.set_cons_succ, List.set_cons_zero]
            clear e0 e1 e2 e3 e4 e5 e6 e7
            go_wp2
            refine bodyPost_ret (v := .tuple #[.agg (gl d).toArray, .int .i64 1, .int .u64 (vector tv cause)]) (res3 rfl rfl rfl rfl h5.f2.heap) rfl ⟨?_, h5.tail.tail⟩
            exact .inl ⟨unhide Hns, by rw [hk, unhide HE, unhide Htv2]⟩
        · have hns : ¬ sup c mode cause := by rw [unhide Hsup]; exact fun h => hX1 h.2
          have Hns := hide hns
          rw [decide_eq_false hX1] at hX0
          have HX := hide hX0
          clear hns hX0
          go_wp2_with (first | (go_at_call 18; refine (rbit_any _ _ (by first | decide | omega) (by first | decide | omega) _).mono ?_; (try rw [unhide HX]); rintro _ _ ⟨rfl, rfl⟩) | (go_at_call 19; refine (rwith_any _ _ _ (by decide) (by decide) _).mono ?_; rintro _ _ ⟨rfl, rfl⟩))
          have h3 := ((((JA.gset 6 (pc / 2 * 2) (k := .u64) rfl).gset 7 cause (k := .u64) rfl).gset 8 tval (k := .u64) rfl).gset 0 (rMach (c 0) false false) (k := .u64) rfl)
          have Htv := hide (show (upd (upd (upd (upd c 6 (pc / 2 * 2)) 7 cause) 8 tval) 0 (rMach (c 0) false false)) 1 = c 1 from rfl)
          have HE : Hid (eMach c 0 pc cause tval = upd (upd (upd (upd c 6 (pc / 2 * 2)) 7 cause) 8 tval) 0 (rMach (c 0) false false)) := hide (by unfold eMach; rw [upd_upd, ← rMach_eq (c 0) 0 hm.1 hm.2 (by decide)]; rfl)
          generalize upd (upd (upd (upd c 6 (pc / 2 * 2)) 7 cause) 8 tval) 0 (rMach (c 0) false false) = d at h3 Htv HE
          obtain ⟨tv, htv⟩ : ∃ tv, c 1 = tv := ⟨_, rfl⟩
          rw [htv] at Htv Hbd1
          have Hbd := Hbd1
          have Htv2 := hide htv
          clear htv
          obtain ⟨vals, e0, e1, e2, e3, e4, e5, e6, e7⟩ : ∃ vals : Nat → Value, vals 0 = .agg (gl d).toArray ∧ vals 1 = .pointer (some ⟨b, 1, none⟩) ∧ vals 2 = .int .u64 tv ∧ vals 3 = .int .u64 cause ∧ vals 4 = .int .u64 (vector tv cause) ∧ vals 5 = undef ∧ vals 6 = .int .i64 3 ∧ vals 7 = .int .u64 (vector tv cause) :=
            ⟨fun k_ => match k_ with
              | 0 => .agg (gl d).toArray
              | 1 => .pointer (some ⟨b, 1, none⟩)
              | 2 => .int .u64 tv
              | 3 => .int .u64 cause
              | 4 => .int .u64 (vector tv cause)
              | 5 => undef
              | 6 => .int .i64 3
              | _ => .int .u64 (vector tv cause)
              , rfl, rfl, rfl, rfl, rfl, rfl, rfl, rfl⟩
          refine wp_region_V (J1 5 (fun a1 w_ => Heap w0 w_ (HP.blk b (gl d).toArray 26 :: HP.blk (b + 1) (bif a1 then (gl d).toArray else (gl Z0).toArray) 26 :: L))) vals fol (by kernel_rfl) (J1.start ?_) ?_ ?_
          · exact h3.drew
          · show wpV _ _ _ _ 0 (_ :: _) _
            refine wpV_cons e0 (j1op (by decide) (Instr.loadAt 26 (.pointer (some ⟨b, 0, none⟩))) (.agg (gl d).toArray) fun a1 w_ hK => ?_) ?_
            · exact ⟨by kernel_rfl, by kernel_rfl, load_gl hK.heap⟩
            refine wpV_cons e1 (j1val (by decide) (.pointer (some ⟨b, 1, none⟩)) fun a1 w_ hK => ?_) ?_
            · exact ⟨by kernel_rfl, by kernel_rfl⟩
            refine wpV_cons e2 (j1op (by decide) (Instr.loadAt 22 (.pointer (some ⟨b, 1, none⟩))) (.int .u64 tv) fun a1 w_ hK => ?_) ?_
            · exact ⟨by kernel_rfl, by kernel_rfl, run_load1 (by kernel_rfl) (by rw [(gcell hK.heap (i := 1) (by omega)).1, unhide Htv]; rfl)⟩
            refine wpV_cons e3 (j1val (by decide) (.int .u64 cause) fun a1 w_ hK => ?_) ?_
            · exact ⟨by kernel_rfl, by kernel_rfl⟩
            refine wpV_cons e4 (j1call (by decide) 20 #[.int .u64 tv, .int .u64 cause] (.int .u64 (vector tv cause)) fun a1 w_ hK => ?_) ?_
            · exact ⟨by kernel_rfl, by kernel_rfl, (rvector_any tv cause (unhide Hbd).1 (unhide Hbd).2 c0 c1 w_).mono fun e w2 ⟨he, hw⟩ => ⟨he, by rw [hw]; exact hK⟩⟩
            refine wpV_cons e5 (j1store (Instr.storeAt 26 (.pointer (some ⟨b + 1, 0, none⟩)) (.agg (gl d).toArray)) fun w_ hK => ?_) ?_
            · exact ⟨by kernel_rfl, by kernel_rfl, _, store_gl hK.f2.heap d, (store_h hK.f2).f2⟩
            refine wpV_cons e6 (j1val (by decide) (.int .i64 3) fun a1 w_ hK => ?_) ?_
            · exact ⟨by kernel_rfl, by kernel_rfl⟩
            refine wpV_cons e7 (j1val (by decide) (.int .u64 (vector tv cause)) fun a1 w_ hK => ?_) wpV_nil
            · exact ⟨by kernel_rfl, by kernel_rfl⟩
          · intro w_ hJ2
            have h5 := hJ2.done (by decide)
            simp only [cond_true] at h5
            clear hJ2
            simp only [fillG, Nat.zero_add, Nat.reduceAdd, e0, e1, e2, e3, e4, e5, e6, e7, Act.put, List.setIfInBounds_toArray, List.set_cons_succ, List.set_cons_zero]
            clear e0 e1 e2 e3 e4 e5 e6 e7
            go_wp2
            refine bodyPost_ret (v := .tuple #[.agg (gl d).toArray, .int .i64 3, .int .u64 (vector tv cause)]) (res3 rfl rfl rfl rfl h5.f2.heap) rfl ⟨?_, h5.tail.tail⟩
            exact .inr ⟨unhide Hns, by rw [hk, unhide HE, unhide Htv2]⟩
      · by_cases hX1 : X = 1
        · subst hX1
          have hns : sup c mode cause := by rw [unhide Hsup]; exact ⟨hk3, rfl⟩
          have Hns := hide hns
          rw [decide_eq_true (rfl : (1 : Int) = 1)] at hX0
          have HX := hide hX0
          clear hns hX0
          go_wp2_with (first | (go_at_call 18; refine (rbit_any _ _ (by first | decide | omega) (by first | decide | omega) _).mono ?_; (try rw [unhide HX]); rintro _ _ ⟨rfl, rfl⟩) | (go_at_call 19; refine (rwith_any _ _ _ (by decide) (by decide) _).mono ?_; rintro _ _ ⟨rfl, rfl⟩))
          have h3 := ((((JA.gset 15 (pc / 2 * 2) (k := .u64) rfl).gset 16 cause (k := .u64) rfl).gset 17 tval (k := .u64) rfl).gset 0 (rSup (c 0) true) (k := .u64) rfl)
          have Htv := hide (show (upd (upd (upd (upd c 15 (pc / 2 * 2)) 16 cause) 17 tval) 0 (rSup (c 0) true)) 14 = c 14 from rfl)
          have HE : Hid (eSup c 1 pc cause tval = upd (upd (upd (upd c 15 (pc / 2 * 2)) 16 cause) 17 tval) 0 (rSup (c 0) true)) := hide (by unfold eSup; rw [upd_upd, ← rSup_eq (c 0) 1 hm.1 hm.2 (by decide)]; rfl)
          generalize upd (upd (upd (upd c 15 (pc / 2 * 2)) 16 cause) 17 tval) 0 (rSup (c 0) true) = d at h3 Htv HE
          obtain ⟨tv, htv⟩ : ∃ tv, c 14 = tv := ⟨_, rfl⟩
          rw [htv] at Htv Hbd
          have Htv2 := hide htv
          clear htv
          obtain ⟨vals, e0, e1, e2, e3, e4, e5, e6, e7⟩ : ∃ vals : Nat → Value, vals 0 = .agg (gl d).toArray ∧ vals 1 = .pointer (some ⟨b, 14, none⟩) ∧ vals 2 = .int .u64 tv ∧ vals 3 = .int .u64 cause ∧ vals 4 = .int .u64 (vector tv cause) ∧ vals 5 = undef ∧ vals 6 = .int .i64 1 ∧ vals 7 = .int .u64 (vector tv cause) :=
            ⟨fun k_ => match k_ with
              | 0 => .agg (gl d).toArray
              | 1 => .pointer (some ⟨b, 14, none⟩)
              | 2 => .int .u64 tv
              | 3 => .int .u64 cause
              | 4 => .int .u64 (vector tv cause)
              | 5 => undef
              | 6 => .int .i64 1
              | _ => .int .u64 (vector tv cause)
              , rfl, rfl, rfl, rfl, rfl, rfl, rfl, rfl⟩
          refine wp_region_V (J1 5 (fun a1 w_ => Heap w0 w_ (HP.blk b (gl d).toArray 26 :: HP.blk (b + 1) (bif a1 then (gl d).toArray else (gl Z0).toArray) 26 :: L))) vals fol (by kernel_rfl) (J1.start ?_) ?_ ?_
          · exact h3.drew
          · show wpV _ _ _ _ 0 (_ :: _) _
            refine wpV_cons e0 (j1op (by decide) (Instr.loadAt 26 (.pointer (some ⟨b, 0, none⟩))) (.agg (gl d).toArray) fun a1 w_ hK => ?_) ?_
            · exact ⟨by kernel_rfl, by kernel_rfl, load_gl hK.heap⟩
            refine wpV_cons e1 (j1val (by decide) (.pointer (some ⟨b, 14, none⟩)) fun a1 w_ hK => ?_) ?_
            · exact ⟨by kernel_rfl, by kernel_rfl⟩
            refine wpV_cons e2 (j1op (by decide) (Instr.loadAt 22 (.pointer (some ⟨b, 14, none⟩))) (.int .u64 tv) fun a1 w_ hK => ?_) ?_
            · exact ⟨by kernel_rfl, by kernel_rfl, run_load1 (by kernel_rfl) (by rw [(gcell hK.heap (i := 14) (by omega)).1, unhide Htv]; rfl)⟩
            refine wpV_cons e3 (j1val (by decide) (.int .u64 cause) fun a1 w_ hK => ?_) ?_
            · exact ⟨by kernel_rfl, by kernel_rfl⟩
            refine wpV_cons e4 (j1call (by decide) 20 #[.int .u64 tv, .int .u64 cause] (.int .u64 (vector tv cause)) fun a1 w_ hK => ?_) ?_
            · exact ⟨by kernel_rfl, by kernel_rfl, (rvector_any tv cause (unhide Hbd).1 (unhide Hbd).2 c0 c1 w_).mono fun e w2 ⟨he, hw⟩ => ⟨he, by rw [hw]; exact hK⟩⟩
            refine wpV_cons e5 (j1store (Instr.storeAt 26 (.pointer (some ⟨b + 1, 0, none⟩)) (.agg (gl d).toArray)) fun w_ hK => ?_) ?_
            · exact ⟨by kernel_rfl, by kernel_rfl, _, store_gl hK.f2.heap d, (store_h hK.f2).f2⟩
            refine wpV_cons e6 (j1val (by decide) (.int .i64 1) fun a1 w_ hK => ?_) ?_
            · exact ⟨by kernel_rfl, by kernel_rfl⟩
            refine wpV_cons e7 (j1val (by decide) (.int .u64 (vector tv cause)) fun a1 w_ hK => ?_) wpV_nil
            · exact ⟨by kernel_rfl, by kernel_rfl⟩
          · intro w_ hJ2
            have h5 := hJ2.done (by decide)
            simp only [cond_true] at h5
            clear hJ2
            simp only [fillG, Nat.zero_add, Nat.reduceAdd, e0, e1, e2, e3, e4, e5, e6, e7, Act.put, List.setIfInBounds_toArray, List.set_cons_succ, List.set_cons_zero]
            clear e0 e1 e2 e3 e4 e5 e6 e7
            go_wp2
            refine bodyPost_ret (v := .tuple #[.agg (gl d).toArray, .int .i64 1, .int .u64 (vector tv cause)]) (res3 rfl rfl rfl rfl h5.f2.heap) rfl ⟨?_, h5.tail.tail⟩
            exact .inl ⟨unhide Hns, by rw [hk, unhide HE, unhide Htv2]⟩
        · have hns : ¬ sup c mode cause := by rw [unhide Hsup]; exact fun h => hX1 h.2
          have Hns := hide hns
          rw [decide_eq_false hX1] at hX0
          have HX := hide hX0
          clear hns hX0
          go_wp2_with (first | (go_at_call 18; refine (rbit_any _ _ (by first | decide | omega) (by first | decide | omega) _).mono ?_; (try rw [unhide HX]); rintro _ _ ⟨rfl, rfl⟩) | (go_at_call 19; refine (rwith_any _ _ _ (by decide) (by decide) _).mono ?_; rintro _ _ ⟨rfl, rfl⟩))
          have h3 := ((((JA.gset 6 (pc / 2 * 2) (k := .u64) rfl).gset 7 cause (k := .u64) rfl).gset 8 tval (k := .u64) rfl).gset 0 (rMach (c 0) true false) (k := .u64) rfl)
          have Htv := hide (show (upd (upd (upd (upd c 6 (pc / 2 * 2)) 7 cause) 8 tval) 0 (rMach (c 0) true false)) 1 = c 1 from rfl)
          have HE : Hid (eMach c 1 pc cause tval = upd (upd (upd (upd c 6 (pc / 2 * 2)) 7 cause) 8 tval) 0 (rMach (c 0) true false)) := hide (by unfold eMach; rw [upd_upd, ← rMach_eq (c 0) 1 hm.1 hm.2 (by decide)]; rfl)
          generalize upd (upd (upd (upd c 6 (pc / 2 * 2)) 7 cause) 8 tval) 0 (rMach (c 0) true false) = d at h3 Htv HE
          obtain ⟨tv, htv⟩ : ∃ tv, c 1 = tv := ⟨_, rfl⟩
          rw [htv] at Htv Hbd1
          have Hbd := Hbd1
          have Htv2 := hide htv
          clear htv
          obtain ⟨vals, e0, e1, e2, e3, e4, e5, e6, e7⟩ : ∃ vals : Nat → Value, vals 0 = .agg (gl d).toArray ∧ vals 1 = .pointer (some ⟨b, 1, none⟩) ∧ vals 2 = .int .u64 tv ∧ vals 3 = .int .u64 cause ∧ vals 4 = .int .u64 (vector tv cause) ∧ vals 5 = undef ∧ vals 6 = .int .i64 3 ∧ vals 7 = .int .u64 (vector tv cause) :=
            ⟨fun k_ => match k_ with
              | 0 => .agg (gl d).toArray
              | 1 => .pointer (some ⟨b, 1, none⟩)
              | 2 => .int .u64 tv
              | 3 => .int .u64 cause
              | 4 => .int .u64 (vector tv cause)
              | 5 => undef
              | 6 => .int .i64 3
              | _ => .int .u64 (vector tv cause)
              , rfl, rfl, rfl, rfl, rfl, rfl, rfl, rfl⟩
          refine wp_region_V (J1 5 (fun a1 w_ => Heap w0 w_ (HP.blk b (gl d).toArray 26 :: HP.blk (b + 1) (bif a1 then (gl d).toArray else (gl Z0).toArray) 26 :: L))) vals fol (by kernel_rfl) (J1.start ?_) ?_ ?_
          · exact h3.drew
          · show wpV _ _ _ _ 0 (_ :: _) _
            refine wpV_cons e0 (j1op (by decide) (Instr.loadAt 26 (.pointer (some ⟨b, 0, none⟩))) (.agg (gl d).toArray) fun a1 w_ hK => ?_) ?_
            · exact ⟨by kernel_rfl, by kernel_rfl, load_gl hK.heap⟩
            refine wpV_cons e1 (j1val (by decide) (.pointer (some ⟨b, 1, none⟩)) fun a1 w_ hK => ?_) ?_
            · exact ⟨by kernel_rfl, by kernel_rfl⟩
            refine wpV_cons e2 (j1op (by decide) (Instr.loadAt 22 (.pointer (some ⟨b, 1, none⟩))) (.int .u64 tv) fun a1 w_ hK => ?_) ?_
            · exact ⟨by kernel_rfl, by kernel_rfl, run_load1 (by kernel_rfl) (by rw [(gcell hK.heap (i := 1) (by omega)).1, unhide Htv]; rfl)⟩
            refine wpV_cons e3 (j1val (by decide) (.int .u64 cause) fun a1 w_ hK => ?_) ?_
            · exact ⟨by kernel_rfl, by kernel_rfl⟩
            refine wpV_cons e4 (j1call (by decide) 20 #[.int .u64 tv, .int .u64 cause] (.int .u64 (vector tv cause)) fun a1 w_ hK => ?_) ?_
            · exact ⟨by kernel_rfl, by kernel_rfl, (rvector_any tv cause (unhide Hbd).1 (unhide Hbd).2 c0 c1 w_).mono fun e w2 ⟨he, hw⟩ => ⟨he, by rw [hw]; exact hK⟩⟩
            refine wpV_cons e5 (j1store (Instr.storeAt 26 (.pointer (some ⟨b + 1, 0, none⟩)) (.agg (gl d).toArray)) fun w_ hK => ?_) ?_
            · exact ⟨by kernel_rfl, by kernel_rfl, _, store_gl hK.f2.heap d, (store_h hK.f2).f2⟩
            refine wpV_cons e6 (j1val (by decide) (.int .i64 3) fun a1 w_ hK => ?_) ?_
            · exact ⟨by kernel_rfl, by kernel_rfl⟩
            refine wpV_cons e7 (j1val (by decide) (.int .u64 (vector tv cause)) fun a1 w_ hK => ?_) wpV_nil
            · exact ⟨by kernel_rfl, by kernel_rfl⟩
          · intro w_ hJ2
            have h5 := hJ2.done (by decide)
            simp only [cond_true] at h5
            clear hJ2
            simp only [fillG, Nat.zero_add, Nat.reduceAdd, e0, e1, e2, e3, e4, e5, e6, e7, Act.put, List.setIfInBounds_toArray, List.set_cons_succ, List.set_cons_zero]
            clear e0 e1 e2 e3 e4 e5 e6 e7
            go_wp2
            refine bodyPost_ret (v := .tuple #[.agg (gl d).toArray, .int .i64 3, .int .u64 (vector tv cause)]) (res3 rfl rfl rfl rfl h5.f2.heap) rfl ⟨?_, h5.tail.tail⟩
            exact .inr ⟨unhide Hns, by rw [hk, unhide HE, unhide Htv2]⟩
end
end Go.Proofs.Ytijhlbkhcpkkdaa
