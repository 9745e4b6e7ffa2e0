/- Layer 13: Enter. -/
import Derived.Test.YtijhlbkhcpkkdaaP1
import Derived.Test.YtijhlbkhcpkkdaaRegion1
namespace Go.Proofs.Ytijhlbkhcpkkdaa
open Go.RowKit

def Z0 : St := fun _ => 0
theorem zero26 (w : World) : (zeroValue 26).run Try.prog w = .ok (.agg (gl Z0).toArray) w := by kernel_rfl
theorem isz26 : (Try.prog.info? 26).map (·.size) = some 38 := by kernel_rfl
def given (c : St) (cause : Int) : Int := if 9223372036854775808 ≤ cause then c 3 else c 2
def mSup (m k : Int) : Int := bits .or .u64 (bits .andNot .u64 m 290) (bits .or .u64 (IntKind.u64.wrap (bits .and .u64 m 2 * 16)) (IntKind.u64.wrap (k * 256)))
def mMach (m k : Int) : Int := bits .or .u64 (bits .andNot .u64 m 6280) (bits .or .u64 (IntKind.u64.wrap (bits .and .u64 m 8 * 16)) (IntKind.u64.wrap (k * 2048)))
def sup (c : St) (mode cause : Int) : Prop := known mode ≠ 3 ∧ given c cause / 2 ^ (cause % 64).toNat % 2 = 1
def eSup (c : St) (k pc cause tval : Int) : St := upd (upd (upd (upd (upd c 15 (pc / 2 * 2)) 16 cause) 17 tval) 0 (bits .andNot .u64 (c 0) 290)) 0 (mSup (c 0) k)
def eMach (c : St) (k pc cause tval : Int) : St := upd (upd (upd (upd (upd c 6 (pc / 2 * 2)) 7 cause) 8 tval) 0 (bits .andNot .u64 (c 0) 6280)) 0 (mMach (c 0) k)
section
variable {w0 w : World} {L : List HP} {c : St} {b : Nat}
theorem load_gl {w : World} (h : w.heap[b]? = some (.cells (gl c).toArray 26 (0, 0))) : (Instr.loadAt 26 (.pointer (some ⟨b, 0, none⟩))).run Try.prog w = .ok (.agg (gl c).toArray) w :=
  run_loadAt_mid w b 0 26 (gl c) _ (range_blk h 0 38 _ (by rw [List.drop_zero]; exact List.take_of_length_le (by rw [gl_len]; exact Nat.le_refl _))) Try.underlying26 rfl (by rw [gl_len]; exact isz26)
theorem store_gl {w : World} (h : w.heap[b]? = some (.cells (gl c).toArray 26 (0, 0))) (d : St) : (Instr.storeAt 26 (.pointer (some ⟨b, 0, none⟩)) (.agg (gl d).toArray)).run Try.prog w = .ok () (w.setCells b 0 (gl d)) :=
  run_storeAt_mid w b 0 26 (gl d).toArray (there_blk h (by rw [gl_len, List.size_toArray, gl_len]; omega)) (by rw [List.size_toArray, gl_len]; exact isz26) (gl_one d)
theorem setL_all (xs vs : List Value) (h : vs.length = xs.length) : setL xs 0 vs = vs := by
  apply List.ext_getElem?
  intro i
  rw [setL_get _ _ _ _ (by omega)]
  by_cases h1 : i < vs.length
  · rw [if_pos (by omega)]; simp
  · rw [if_neg (by omega), List.getElem?_eq_none (by omega), List.getElem?_eq_none (by omega)]
theorem store_h {d : St} (h : Heap w0 w (HP.blk b (gl c).toArray 26 :: L)) : Heap w0 (w.setCells b 0 (gl d)) (HP.blk b (gl d).toArray 26 :: L) := by
  have := h.sets (gl d) 0
  rwa [setL_all _ _ (by rw [gl_len, gl_len])] at this
theorem res3 {fn : Func} {p u v : Tmp} {tmps : Array Value} {w : World} {g : Nat} {d : St} {x y : Value} (h : fn.results = #[.cell p 26, .tmp u, .tmp v]) (hp : tmps.getD p undef = .pointer (some ⟨g, 0, none⟩)) (hu : tmps.getD u undef = x) (hv : tmps.getD v undef = y) (hg : w.heap[g]? = some (.cells (gl d).toArray 26 (0, 0))) :
    (results fn tmps).run Try.prog w = .ok (.tuple #[.agg (gl d).toArray, x, y]) w := by
  have hl := run_loadVar_row (P := Try.prog) w g 26 26 (gl d).toArray (0, 0) _ hg Try.underlying26 rfl (by rw [List.size_toArray, gl_len]; exact isz26)
  subst hu hv
  have hp' : tmps[p]?.getD undef = .pointer (some ⟨g, 0, none⟩) := by simpa using hp
  simp only [results, h]
  simp [Sem.run_bind, Result.andThen, hp', asAddr, hl]
set_option maxRecDepth 100000 in
set_option maxHeartbeats 2000000 in
theorem enter_h (h : Heap w0 w L) (hI : GI c) (mode pc cause tval : Int) (p0 : 0 ≤ pc) (p1 : pc < 18446744073709551616) (c0 : 0 ≤ cause) (c1 : cause < 18446744073709551616) (t0 : 0 ≤ tval) (t1 : tval < 18446744073709551616) :
    Calls Try.prog 9 #[.agg (gl c).toArray, .int .i64 mode, .int .u64 pc, .int .u64 cause, .int .u64 tval] w fun r w' =>
      ((sup c mode cause ∧ r = .returned (.tuple #[.agg (gl (eSup c (known mode) pc cause tval)).toArray, .int .i64 1, .int .u64 (vector (c 14) cause)])) ∨
       (¬ sup c mode cause ∧ r = .returned (.tuple #[.agg (gl (eMach c (known mode) pc cause tval)).toArray, .int .i64 3, .int .u64 (vector (c 1) cause)]))) ∧ Heap w0 w' L := by
  have JA := ((h.new (gl c).toArray 26).new (gl Z0).toArray 26).f2
  obtain ⟨b, hb⟩ : ∃ b, w.heap.size = b := ⟨_, rfl⟩
  have hz := zero26
  have hz2 : (w.alloc (.cells (gl c).toArray 26)).heap.size = b + 1 := by rw [← hb]; simp
  rw [hz2, hb] at JA
  have e3 := andTop cause c0 c1
  have e63 := and63 cause c0 c1
  have ep := u64_not1 pc p0 p1
  have hkc := known_cases mode
  have Hbd : Hid (0 ≤ c 14 ∧ c 14 < 18446744073709551616) := hide (hI.r 14 (by omega))
  have Hbd1 : Hid (0 ≤ c 1 ∧ c 1 < 18446744073709551616) := hide (hI.r 1 (by omega))
  have hg3 := hI.r 3 (by omega)
  have hg2 := hI.r 2 (by omega)
  have hgv : 0 ≤ given c cause ∧ given c cause < 18446744073709551616 := by unfold given; split <;> assumption
  go_enter Try.func9, Try.ntmps9
  go_wp2_with fail
  refine (known_any mode _).mono ?_
  rintro r w1 ⟨rfl, hw⟩
  rw [← hw] at JA
  clear hw hz hz2 hb
  have hlt := lt_of_heap' JA.heap
  have d0 := (gcell JA.heap (i := 0) (by omega))
  rw [show gk 0 = .u64 from rfl] at d0
  have d1 := (gcell JA.heap (i := 1) (by omega))
  rw [show gk 1 = .u64 from rfl] at d1
  have d2 := (gcell JA.heap (i := 2) (by omega))
  rw [show gk 2 = .u64 from rfl] at d2
  have d3 := (gcell JA.heap (i := 3) (by omega))
  rw [show gk 3 = .u64 from rfl] at d3
  have d6 := (gcell JA.heap (i := 6) (by omega))
  rw [show gk 6 = .u64 from rfl] at d6
  have d7 := (gcell JA.heap (i := 7) (by omega))
  rw [show gk 7 = .u64 from rfl] at d7
  have d8 := (gcell JA.heap (i := 8) (by omega))
  rw [show gk 8 = .u64 from rfl] at d8
  have d14 := (gcell JA.heap (i := 14) (by omega))
  rw [show gk 14 = .u64 from rfl] at d14
  have d15 := (gcell JA.heap (i := 15) (by omega))
  rw [show gk 15 = .u64 from rfl] at d15
  have d16 := (gcell JA.heap (i := 16) (by omega))
  rw [show gk 16 = .u64 from rfl] at d16
  have d17 := (gcell JA.heap (i := 17) (by omega))
  rw [show gk 17 = .u64 from rfl] at d17
  obtain ⟨k, hk⟩ : ∃ k, known mode = k := ⟨_, rfl⟩
  rw [hk] at hkc ⊢
  go_upto_if 23 with fail
  go_cut [13] (fun s13 wx => s13 = .int .u64 (given c cause) ∧ wx = w1)
  case first =>
    by_cases hq : 9223372036854775808 ≤ cause
    · have z2 : cause / 9223372036854775808 * 9223372036854775808 = 9223372036854775808 := by omega
      rw [z2]
      go_wp2
      go_meet
      exact ⟨by unfold given; rw [if_pos hq], rfl⟩
    · have z2 : cause / 9223372036854775808 * 9223372036854775808 = 0 := by omega
      rw [z2]
      go_wp2
      go_meet
      exact ⟨by unfold given; rw [if_neg (by omega)], rfl⟩
  case rest =>
    obtain ⟨rfl, hw⟩ := hcut
    rw [hw]
    clear hw
    have hsup : sup c mode cause ↔ (k ≠ 3 ∧ given c cause / 2 ^ (cause % 64).toNat % 2 = 1) := by unfold sup; rw [hk]
    have Hsup := hide hsup
    clear hsup
    generalize given c cause = gvn at *
    have hgb : 0 ≤ gvn / 2 ^ (cause % 64).toNat ∧ gvn / 2 ^ (cause % 64).toNat < 18446744073709551616 := by
      have hp : (0 : Int) < 2 ^ (cause % 64).toNat := Int.pow_pos (by decide)
      refine ⟨Int.ediv_nonneg hgv.1 (by omega), ?_⟩
      have := Int.ediv_le_self (b := 2 ^ (cause % 64).toNat) hgv.1
      omega
    have e1 := u64_mask1 (gvn / 2 ^ (cause % 64).toNat) hgb.1 hgb.2
    generalize hX : gvn / 2 ^ (cause % 64).toNat % 2 = X at *
    by_cases hk3 : k = 3
    · subst hk3
      have hns : ¬ sup c mode cause := by rw [unhide Hsup]; exact fun h => h.1 rfl
      have Hns := hide hns
      clear hns
      go_wp2_with fail
      have h3 := (((((JA.gset 6 (pc / 2 * 2) (k := .u64) rfl).gset 7 cause (k := .u64) rfl).gset 8 tval (k := .u64) rfl).gset 0 (bits .andNot .u64 (c 0) 6280) (k := .u64) rfl).gset 0 (mMach (c 0) 3) (k := .u64) rfl)
      have Htv := hide (show (upd (upd (upd (upd (upd c 6 (pc / 2 * 2)) 7 cause) 8 tval) 0 (bits .andNot .u64 (c 0) 6280)) 0 (mMach (c 0) 3)) 1 = c 1 from rfl)
      have Hd := hide (show (upd (upd (upd (upd (upd c 6 (pc / 2 * 2)) 7 cause) 8 tval) 0 (bits .andNot .u64 (c 0) 6280)) 0 (mMach (c 0) 3)) = (upd (upd (upd (upd (upd c 6 (pc / 2 * 2)) 7 cause) 8 tval) 0 (bits .andNot .u64 (c 0) 6280)) 0 (mMach (c 0) 3)) from rfl)
      generalize hdd : (upd (upd (upd (upd (upd c 6 (pc / 2 * 2)) 7 cause) 8 tval) 0 (bits .andNot .u64 (c 0) 6280)) 0 (mMach (c 0) 3)) = d at *
      obtain ⟨tv, htv⟩ : ∃ tv, c 1 = tv := ⟨_, rfl⟩
      rw [htv] at Htv Hbd1
      have Hbd := Hbd1
      have Htv2 := hide htv
      clear htv
      have Hdd := hide hdd
      clear hdd
      obtain ⟨vals, e0, e1, e2, e3, e4, e5, e6, e7⟩ : ∃ vals : Nat → Value, vals 0 = .agg (gl d).toArray ∧ vals 1 = .pointer (some ⟨b, 1, none⟩) ∧ vals 2 = .int .u64 tv ∧ vals 3 = .int .u64 cause ∧ vals 4 = .int .u64 (vector tv cause) ∧ vals 5 = undef ∧ vals 6 = .int .i64 3 ∧ vals 7 = .int .u64 (vector tv cause) :=
        ⟨fun k_ => match k_ with
          | 0 => .agg (gl d).toArray
          | 1 => .pointer (some ⟨b, 1, none⟩)
          | 2 => .int .u64 tv
          | 3 => .int .u64 cause
          | 4 => .int .u64 (vector tv cause)
          | 5 => undef
          | 6 => .int .i64 3
          | _ => .int .u64 (vector tv cause)
          , rfl, rfl, rfl, rfl, rfl, rfl, rfl, rfl⟩
      refine wp_region_V (J1 5 (fun a1 w_ => Heap w0 w_ (HP.blk b (gl d).toArray 26 :: HP.blk (b + 1) (bif a1 then (gl d).toArray else (gl Z0).toArray) 26 :: L))) vals fol (by kernel_rfl) (J1.start ?_) ?_ ?_
      · exact h3.drew
      · show wpV _ _ _ _ 0 (_ :: _) _
        refine wpV_cons e0 (j1op (by decide) (Instr.loadAt 26 (.pointer (some ⟨b, 0, none⟩))) (.agg (gl d).toArray) fun a1 w_ hK => ?_) ?_
        · exact ⟨by kernel_rfl, by kernel_rfl, load_gl hK.heap⟩
        refine wpV_cons e1 (j1val (by decide) (.pointer (some ⟨b, 1, none⟩)) fun a1 w_ hK => ?_) ?_
        · exact ⟨by kernel_rfl, by kernel_rfl⟩
        refine wpV_cons e2 (j1op (by decide) (Instr.loadAt 22 (.pointer (some ⟨b, 1, none⟩))) (.int .u64 tv) fun a1 w_ hK => ?_) ?_
        · exact ⟨by kernel_rfl, by kernel_rfl, run_load1 (by kernel_rfl) (by rw [(gcell hK.heap (i := 1) (by omega)).1, unhide Htv]; rfl)⟩
        refine wpV_cons e3 (j1val (by decide) (.int .u64 cause) fun a1 w_ hK => ?_) ?_
        · exact ⟨by kernel_rfl, by kernel_rfl⟩
        refine wpV_cons e4 (j1call (by decide) 16 #[.int .u64 tv, .int .u64 cause] (.int .u64 (vector tv cause)) fun a1 w_ hK => ?_) ?_
        · exact ⟨by kernel_rfl, by kernel_rfl, (vector_any tv cause (unhide Hbd).1 (unhide Hbd).2 c0 c1 w_).mono fun e w2 ⟨he, hw⟩ => ⟨he, by rw [hw]; exact hK⟩⟩
        refine wpV_cons e5 (j1store (Instr.storeAt 26 (.pointer (some ⟨b + 1, 0, none⟩)) (.agg (gl d).toArray)) fun w_ hK => ?_) ?_
        · exact ⟨by kernel_rfl, by kernel_rfl, _, store_gl hK.f2.heap d, (store_h hK.f2).f2⟩
        refine wpV_cons e6 (j1val (by decide) (.int .i64 3) fun a1 w_ hK => ?_) ?_
        · exact ⟨by kernel_rfl, by kernel_rfl⟩
        refine wpV_cons e7 (j1val (by decide) (.int .u64 (vector tv cause)) fun a1 w_ hK => ?_) wpV_nil
        · exact ⟨by kernel_rfl, by kernel_rfl⟩
      · intro w_ hJ2
        have h5 := hJ2.done (by decide)
        simp only [cond_true] at h5
        clear hJ2
        simp only [fillG, Nat.zero_add, Nat.reduceAdd, e0, e1, e2, e3, e4, e5, e6, e7, Act.put, List.setIfInBounds_toArray, List.set_cons_succ, List.set_cons_zero]
        clear e0 e1 e2 e3 e4 e5 e6 e7
        go_wp2
        refine bodyPost_ret (v := .tuple #[.agg (gl d).toArray, .int .i64 3, .int .u64 (vector tv cause)]) (res3 rfl rfl rfl rfl h5.f2.heap) rfl ⟨?_, h5.tail.tail⟩
        exact .inr ⟨unhide Hns, by rw [← unhide Hdd, unhide Htv2]; rfl⟩
    · have hk01 : k = 0 ∨ k = 1 := by omega
      rcases hk01 with rfl | rfl
      · by_cases hX1 : X = 1
        · subst hX1
          have hns : sup c mode cause := by rw [unhide Hsup]; exact ⟨hk3, rfl⟩
          have Hns := hide hns
          clear hns
          go_wp2_with fail
          have h3 := (((((JA.gset 15 (pc / 2 * 2) (k := .u64) rfl).gset 16 cause (k := .u64) rfl).gset 17 tval (k := .u64) rfl).gset 0 (bits .andNot .u64 (c 0) 290) (k := .u64) rfl).gset 0 (mSup (c 0) 0) (k := .u64) rfl)
          have Htv := hide (show (upd (upd (upd (upd (upd c 15 (pc / 2 * 2)) 16 cause) 17 tval) 0 (bits .andNot .u64 (c 0) 290)) 0 (mSup (c 0) 0)) 14 = c 14 from rfl)
          have Hd := hide (show (upd (upd (upd (upd (upd c 15 (pc / 2 * 2)) 16 cause) 17 tval) 0 (bits .andNot .u64 (c 0) 290)) 0 (mSup (c 0) 0)) = (upd (upd (upd (upd (upd c 15 (pc / 2 * 2)) 16 cause) 17 tval) 0 (bits .andNot .u64 (c 0) 290)) 0 (mSup (c 0) 0)) from rfl)
          generalize hdd : (upd (upd (upd (upd (upd c 15 (pc / 2 * 2)) 16 cause) 17 tval) 0 (bits .andNot .u64 (c 0) 290)) 0 (mSup (c 0) 0)) = d at *
          obtain ⟨tv, htv⟩ : ∃ tv, c 14 = tv := ⟨_, rfl⟩
          rw [htv] at Htv Hbd
          have Htv2 := hide htv
          clear htv
          have Hdd := hide hdd
          clear hdd
          obtain ⟨vals, e0, e1, e2, e3, e4, e5, e6, e7⟩ : ∃ vals : Nat → Value, vals 0 = .agg (gl d).toArray ∧ vals 1 = .pointer (some ⟨b, 14, none⟩) ∧ vals 2 = .int .u64 tv ∧ vals 3 = .int .u64 cause ∧ vals 4 = .int .u64 (vector tv cause) ∧ vals 5 = undef ∧ vals 6 = .int .i64 1 ∧ vals 7 = .int .u64 (vector tv cause) :=
            ⟨fun k_ => match k_ with
              | 0 => .agg (gl d).toArray
              | 1 => .pointer (some ⟨b, 14, none⟩)
              | 2 => .int .u64 tv
              | 3 => .int .u64 cause
              | 4 => .int .u64 (vector tv cause)
              | 5 => undef
              | 6 => .int .i64 1
              | _ => .int .u64 (vector tv cause)
              , rfl, rfl, rfl, rfl, rfl, rfl, rfl, rfl⟩
          refine wp_region_V (J1 5 (fun a1 w_ => Heap w0 w_ (HP.blk b (gl d).toArray 26 :: HP.blk (b + 1) (bif a1 then (gl d).toArray else (gl Z0).toArray) 26 :: L))) vals fol (by kernel_rfl) (J1.start ?_) ?_ ?_
          · exact h3.drew
          · show wpV _ _ _ _ 0 (_ :: _) _
            refine wpV_cons e0 (j1op (by decide) (Instr.loadAt 26 (.pointer (some ⟨b, 0, none⟩))) (.agg (gl d).toArray) fun a1 w_ hK => ?_) ?_
            · exact ⟨by kernel_rfl, by kernel_rfl, load_gl hK.heap⟩
            refine wpV_cons e1 (j1val (by decide) (.pointer (some ⟨b, 14, none⟩)) fun a1 w_ hK => ?_) ?_
            · exact ⟨by kernel_rfl, by kernel_rfl⟩
            refine wpV_cons e2 (j1op (by decide) (Instr.loadAt 22 (.pointer (some ⟨b, 14, none⟩))) (.int .u64 tv) fun a1 w_ hK => ?_) ?_
            · exact ⟨by kernel_rfl, by kernel_rfl, run_load1 (by kernel_rfl) (by rw [(gcell hK.heap (i := 14) (by omega)).1, unhide Htv]; rfl)⟩
            refine wpV_cons e3 (j1val (by decide) (.int .u64 cause) fun a1 w_ hK => ?_) ?_
            · exact ⟨by kernel_rfl, by kernel_rfl⟩
            refine wpV_cons e4 (j1call (by decide) 16 #[.int .u64 tv, .int .u64 cause] (.int .u64 (vector tv cause)) fun a1 w_ hK => ?_) ?_
            · exact ⟨by kernel_rfl, by kernel_rfl, (vector_any tv cause (unhide Hbd).1 (unhide Hbd).2 c0 c1 w_).mono fun e w2 ⟨he, hw⟩ => ⟨he, by rw [hw]; exact hK⟩⟩
            refine wpV_cons e5 (j1store (Instr.storeAt 26 (.pointer (some ⟨b + 1, 0, none⟩)) (.agg (gl d).toArray)) fun w_ hK => ?_) ?_
            · exact ⟨by kernel_rfl, by kernel_rfl, _, store_gl hK.f2.heap d, (store_h hK.f2).f2⟩
            refine wpV_cons e6 (j1val (by decide) (.int .i64 1) fun a1 w_ hK => ?_) ?_
            · exact ⟨by kernel_rfl, by kernel_rfl⟩
            refine wpV_cons e7 (j1val (by decide) (.int .u64 (vector tv cause)) fun a1 w_ hK => ?_) wpV_nil
            · exact ⟨by kernel_rfl, by kernel_rfl⟩
          · intro w_ hJ2
            have h5 := hJ2.done (by decide)
            simp only [cond_true] at h5
            clear hJ2
            simp only [fillG, Nat.zero_add, Nat.reduceAdd, e0, e1, e2, e3, e4, e5, e6, e7, Act.put, List.setIfInBounds_toArray, List.set_cons_succ, List.set_cons_zero]
            clear e0 e1 e2 e3 e4 e5 e6 e7
            go_wp2
            refine bodyPost_ret (v := .tuple #[.agg (gl d).toArray, .int .i64 1, .int .u64 (vector tv cause)]) (res3 rfl rfl rfl rfl h5.f2.heap) rfl ⟨?_, h5.tail.tail⟩
            exact .inl ⟨unhide Hns, by rw [← unhide Hdd, unhide Htv2]; rfl⟩
        · have zx : (X == 1) = false := beq_eq_false_iff_ne.2 hX1
          have hns : ¬ sup c mode cause := by rw [unhide Hsup]; exact fun h => hX1 h.2
          have Hns := hide hns
          clear hns
          go_wp2_with fail
          have h3 := (((((JA.gset 6 (pc / 2 * 2) (k := .u64) rfl).gset 7 cause (k := .u64) rfl).gset 8 tval (k := .u64) rfl).gset 0 (bits .andNot .u64 (c 0) 6280) (k := .u64) rfl).gset 0 (mMach (c 0) 0) (k := .u64) rfl)
          have Htv := hide (show (upd (upd (upd (upd (upd c 6 (pc / 2 * 2)) 7 cause) 8 tval) 0 (bits .andNot .u64 (c 0) 6280)) 0 (mMach (c 0) 0)) 1 = c 1 from rfl)
          have Hd := hide (show (upd (upd (upd (upd (upd c 6 (pc / 2 * 2)) 7 cause) 8 tval) 0 (bits .andNot .u64 (c 0) 6280)) 0 (mMach (c 0) 0)) = (upd (upd (upd (upd (upd c 6 (pc / 2 * 2)) 7 cause) 8 tval) 0 (bits .andNot .u64 (c 0) 6280)) 0 (mMach (c 0) 0)) from rfl)
          generalize hdd : (upd (upd (upd (upd (upd c 6 (pc / 2 * 2)) 7 cause) 8 tval) 0 (bits .andNot .u64 (c 0) 6280)) 0 (mMach (c 0) 0)) = d at *
          obtain ⟨tv, htv⟩ : ∃ tv, c 1 = tv := ⟨_, rfl⟩
          rw [htv] at Htv Hbd1
          have Hbd := Hbd1
          have Htv2 := hide htv
          clear htv
          have Hdd := hide hdd
          clear hdd
          obtain ⟨vals, e0, e1, e2, e3, e4, e5, e6, e7⟩ : ∃ vals : Nat → Value, vals 0 = .agg (gl d).toArray ∧ vals 1 = .pointer (some ⟨b, 1, none⟩) ∧ vals 2 = .int .u64 tv ∧ vals 3 = .int .u64 cause ∧ vals 4 = .int .u64 (vector tv cause) ∧ vals 5 = undef ∧ vals 6 = .int .i64 3 ∧ vals 7 = .int .u64 (vector tv cause) :=
            ⟨fun k_ => match k_ with
              | 0 => .agg (gl d).toArray
              | 1 => .pointer (some ⟨b, 1, none⟩)
              | 2 => .int .u64 tv
              | 3 => .int .u64 cause
              | 4 => .int .u64 (vector tv cause)
              | 5 => undef
              | 6 => .int .i64 3
              | _ => .int .u64 (vector tv cause)
              , rfl, rfl, rfl, rfl, rfl, rfl, rfl, rfl⟩
          refine wp_region_V (J1 5 (fun a1 w_ => Heap w0 w_ (HP.blk b (gl d).toArray 26 :: HP.blk (b + 1) (bif a1 then (gl d).toArray else (gl Z0).toArray) 26 :: L))) vals fol (by kernel_rfl) (J1.start ?_) ?_ ?_
          · exact h3.drew
          · show wpV _ _ _ _ 0 (_ :: _) _
            refine wpV_cons e0 (j1op (by decide) (Instr.loadAt 26 (.pointer (some ⟨b, 0, none⟩))) (.agg (gl d).toArray) fun a1 w_ hK => ?_) ?_
            · exact ⟨by kernel_rfl, by kernel_rfl, load_gl hK.heap⟩
            refine wpV_cons e1 (j1val (by decide) (.pointer (some ⟨b, 1, none⟩)) fun a1 w_ hK => ?_) ?_
            · exact ⟨by kernel_rfl, by kernel_rfl⟩
            refine wpV_cons e2 (j1op (by decide) (Instr.loadAt 22 (.pointer (some ⟨b, 1, none⟩))) (.int .u64 tv) fun a1 w_ hK => ?_) ?_
            · exact ⟨by kernel_rfl, by kernel_rfl, run_load1 (by kernel_rfl) (by rw [(gcell hK.heap (i := 1) (by omega)).1, unhide Htv]; rfl)⟩
            refine wpV_cons e3 (j1val (by decide) (.int .u64 cause) fun a1 w_ hK => ?_) ?_
            · exact ⟨by kernel_rfl, by kernel_rfl⟩
            refine wpV_cons e4 (j1call (by decide) 16 #[.int .u64 tv, .int .u64 cause] (.int .u64 (vector tv cause)) fun a1 w_ hK => ?_) ?_
            · exact ⟨by kernel_rfl, by kernel_rfl, (vector_any tv cause (unhide Hbd).1 (unhide Hbd).2 c0 c1 w_).mono fun e w2 ⟨he, hw⟩ => ⟨he, by rw [hw]; exact hK⟩⟩
            refine wpV_cons e5 (j1store (Instr.storeAt 26 (.pointer (some ⟨b + 1, 0, none⟩)) (.agg (gl d).toArray)) fun w_ hK => ?_) ?_
            · exact ⟨by kernel_rfl, by kernel_rfl, _, store_gl hK.f2.heap d, (store_h hK.f2).f2⟩
            refine wpV_cons e6 (j1val (by decide) (.int .i64 3) fun a1 w_ hK => ?_) ?_
            · exact ⟨by kernel_rfl, by kernel_rfl⟩
            refine wpV_cons e7 (j1val (by decide) (.int .u64 (vector tv cause)) fun a1 w_ hK => ?_) wpV_nil
            · exact ⟨by kernel_rfl, by kernel_rfl⟩
          · intro w_ hJ2
            have h5 := hJ2.done (by decide)
            simp only [cond_true] at h5
            clear hJ2
            simp only [fillG, Nat.zero_add, Nat.reduceAdd, e0, e1, e2, e3, e4, e5, e6, e7, Act.put, List.setIfInBounds_toArray, List.set_cons_succ, List.set_cons_zero]
            clear e0 e1 e2 e3 e4 e5 e6 e7
            go_wp2
            refine bodyPost_ret (v := .tuple #[.agg (gl d).toArray, .int .i64 3, .int .u64 (vector tv cause)]) (res3 rfl rfl rfl rfl h5.f2.heap) rfl ⟨?_, h5.tail.tail⟩
            exact .inr ⟨unhide Hns, by rw [← unhide Hdd, unhide Htv2]; rfl⟩
      · by_cases hX1 : X = 1
        · subst hX1
          have hns : sup c mode cause := by rw [unhide Hsup]; exact ⟨hk3, rfl⟩
          have Hns := hide hns
          clear hns
          go_wp2_with fail
          have h3 := (((((JA.gset 15 (pc / 2 * 2) (k := .u64) rfl).gset 16 cause (k := .u64) rfl).gset 17 tval (k := .u64) rfl).gset 0 (bits .andNot .u64 (c 0) 290) (k := .u64) rfl).gset 0 (mSup (c 0) 1) (k := .u64) rfl)
          have Htv := hide (show (upd (upd (upd (upd (upd c 15 (pc / 2 * 2)) 16 cause) 17 tval) 0 (bits .andNot .u64 (c 0) 290)) 0 (mSup (c 0) 1)) 14 = c 14 from rfl)
          have Hd := hide (show (upd (upd (upd (upd (upd c 15 (pc / 2 * 2)) 16 cause) 17 tval) 0 (bits .andNot .u64 (c 0) 290)) 0 (mSup (c 0) 1)) = (upd (upd (upd (upd (upd c 15 (pc / 2 * 2)) 16 cause) 17 tval) 0 (bits .andNot .u64 (c 0) 290)) 0 (mSup (c 0) 1)) from rfl)
          generalize hdd : (upd (upd (upd (upd (upd c 15 (pc / 2 * 2)) 16 cause) 17 tval) 0 (bits .andNot .u64 (c 0) 290)) 0 (mSup (c 0) 1)) = d at *
          obtain ⟨tv, htv⟩ : ∃ tv, c 14 = tv := ⟨_, rfl⟩
          rw [htv] at Htv Hbd
          have Htv2 := hide htv
          clear htv
          have Hdd := hide hdd
          clear hdd
          obtain ⟨vals, e0, e1, e2, e3, e4, e5, e6, e7⟩ : ∃ vals : Nat → Value, vals 0 = .agg (gl d).toArray ∧ vals 1 = .pointer (some ⟨b, 14, none⟩) ∧ vals 2 = .int .u64 tv ∧ vals 3 = .int .u64 cause ∧ vals 4 = .int .u64 (vector tv cause) ∧ vals 5 = undef ∧ vals 6 = .int .i64 1 ∧ vals 7 = .int .u64 (vector tv cause) :=
            ⟨fun k_ => match k_ with
              | 0 => .agg (gl d).toArray
              | 1 => .pointer (some ⟨b, 14, none⟩)
              | 2 => .int .u64 tv
              | 3 => .int .u64 cause
              | 4 => .int .u64 (vector tv cause)
              | 5 => undef
              | 6 => .int .i64 1
              | _ => .int .u64 (vector tv cause)
              , rfl, rfl, rfl, rfl, rfl, rfl, rfl, rfl⟩
          refine wp_region_V (J1 5 (fun a1 w_ => Heap w0 w_ (HP.blk b (gl d).toArray 26 :: HP.blk (b + 1) (bif a1 then (gl d).toArray else (gl Z0).toArray) 26 :: L))) vals fol (by kernel_rfl) (J1.start ?_) ?_ ?_
          · exact h3.drew
          · show wpV _ _ _ _ 0 (_ :: _) _
            refine wpV_cons e0 (j1op (by decide) (Instr.loadAt 26 (.pointer (some ⟨b, 0, none⟩))) (.agg (gl d).toArray) fun a1 w_ hK => ?_) ?_
            · exact ⟨by kernel_rfl, by kernel_rfl, load_gl hK.heap⟩
            refine wpV_cons e1 (j1val (by decide) (.pointer (some ⟨b, 14, none⟩)) fun a1 w_ hK => ?_) ?_
            · exact ⟨by kernel_rfl, by kernel_rfl⟩
            refine wpV_cons e2 (j1op (by decide) (Instr.loadAt 22 (.pointer (some ⟨b, 14, none⟩))) (.int .u64 tv) fun a1 w_ hK => ?_) ?_
            · exact ⟨by kernel_rfl, by kernel_rfl, run_load1 (by kernel_rfl) (by rw [(gcell hK.heap (i := 14) (by omega)).1, unhide Htv]; rfl)⟩
            refine wpV_cons e3 (j1val (by decide) (.int .u64 cause) fun a1 w_ hK => ?_) ?_
            · exact ⟨by kernel_rfl, by kernel_rfl⟩
            refine wpV_cons e4 (j1call (by decide) 16 #[.int .u64 tv, .int .u64 cause] (.int .u64 (vector tv cause)) fun a1 w_ hK => ?_) ?_
            · exact ⟨by kernel_rfl, by kernel_rfl, (vector_any tv cause (unhide Hbd).1 (unhide Hbd).2 c0 c1 w_).mono fun e w2 ⟨he, hw⟩ => ⟨he, by rw [hw]; exact hK⟩⟩
            refine wpV_cons e5 (j1store (Instr.storeAt 26 (.pointer (some ⟨b + 1, 0, none⟩)) (.agg (gl d).toArray)) fun w_ hK => ?_) ?_
            · exact ⟨by kernel_rfl, by kernel_rfl, _, store_gl hK.f2.heap d, (store_h hK.f2).f2⟩
            refine wpV_cons e6 (j1val (by decide) (.int .i64 1) fun a1 w_ hK => ?_) ?_
            · exact ⟨by kernel_rfl, by kernel_rfl⟩
            refine wpV_cons e7 (j1val (by decide) (.int .u64 (vector tv cause)) fun a1 w_ hK => ?_) wpV_nil
            · exact ⟨by kernel_rfl, by kernel_rfl⟩
          · intro w_ hJ2
            have h5 := hJ2.done (by decide)
            simp only [cond_true] at h5
            clear hJ2
            simp only [fillG, Nat.zero_add, Nat.reduceAdd, e0, e1, e2, e3, e4, e5, e6, e7, Act.put, List.setIfInBounds_toArray, List.set_cons_succ, List.set_cons_zero]
            clear e0 e1 e2 e3 e4 e5 e6 e7
            go_wp2
            refine bodyPost_ret (v := .tuple #[.agg (gl d).toArray, .int .i64 1, .int .u64 (vector tv cause)]) (res3 rfl rfl rfl rfl h5.f2.heap) rfl ⟨?_, h5.tail.tail⟩
            exact .inl ⟨unhide Hns, by rw [← unhide Hdd, unhide Htv2]; rfl⟩
        · have zx : (X == 1) = false := beq_eq_false_iff_ne.2 hX1
          have hns : ¬ sup c mode cause := by rw [unhide Hsup]; exact fun h => hX1 h.2
          have Hns := hide hns
          clear hns
          go_wp2_with fail
          have h3 := (((((JA.gset 6 (pc / 2 * 2) (k := .u64) rfl).gset 7 cause (k := .u64) rfl).gset 8 tval (k := .u64) rfl).gset 0 (bits .andNot .u64 (c 0) 6280) (k := .u64) rfl).gset 0 (mMach (c 0) 1) (k := .u64) rfl)
          have Htv := hide (show (upd (upd (upd (upd (upd c 6 (pc / 2 * 2)) 7 cause) 8 tval) 0 (bits .andNot .u64 (c 0) 6280)) 0 (mMach (c 0) 1)) 1 = c 1 from rfl)
          have Hd := hide (show (upd (upd (upd (upd (upd c 6 (pc / 2 * 2)) 7 cause) 8 tval) 0 (bits .andNot .u64 (c 0) 6280)) 0 (mMach (c 0) 1)) = (upd (upd (upd (upd (upd c 6 (pc / 2 * 2)) 7 cause) 8 tval) 0 (bits .andNot .u64 (c 0) 6280)) 0 (mMach (c 0) 1)) from rfl)
          generalize hdd : (upd (upd (upd (upd (upd c 6 (pc / 2 * 2)) 7 cause) 8 tval) 0 (bits .andNot .u64 (c 0) 6280)) 0 (mMach (c 0) 1)) = d at *
          obtain ⟨tv, htv⟩ : ∃ tv, c 1 = tv := ⟨_, rfl⟩
          rw [htv] at Htv Hbd1
          have Hbd := Hbd1
          have Htv2 := hide htv
          clear htv
          have Hdd := hide hdd
          clear hdd
          obtain ⟨vals, e0, e1, e2, e3, e4, e5, e6, e7⟩ : ∃ vals : Nat → Value, vals 0 = .agg (gl d).toArray ∧ vals 1 = .pointer (some ⟨b, 1, none⟩) ∧ vals 2 = .int .u64 tv ∧ vals 3 = .int .u64 cause ∧ vals 4 = .int .u64 (vector tv cause) ∧ vals 5 = undef ∧ vals 6 = .int .i64 3 ∧ vals 7 = .int .u64 (vector tv cause) :=
            ⟨fun k_ => match k_ with
              | 0 => .agg (gl d).toArray
              | 1 => .pointer (some ⟨b, 1, none⟩)
              | 2 => .int .u64 tv
              | 3 => .int .u64 cause
              | 4 => .int .u64 (vector tv cause)
              | 5 => undef
              | 6 => .int .i64 3
              | _ => .int .u64 (vector tv cause)
              , rfl, rfl, rfl, rfl, rfl, rfl, rfl, rfl⟩
          refine wp_region_V (J1 5 (fun a1 w_ => Heap w0 w_ (HP.blk b (gl d).toArray 26 :: HP.blk (b + 1) (bif a1 then (gl d).toArray else (gl Z0).toArray) 26 :: L))) vals fol (by kernel_rfl) (J1.start ?_) ?_ ?_
          · exact h3.drew
          · show wpV _ _ _ _ 0 (_ :: _) _
            refine wpV_cons e0 (j1op (by decide) (Instr.loadAt 26 (.pointer (some ⟨b, 0, none⟩))) (.agg (gl d).toArray) fun a1 w_ hK => ?_) ?_
            · exact ⟨by kernel_rfl, by kernel_rfl, load_gl hK.heap⟩
            refine wpV_cons e1 (j1val (by decide) (.pointer (some ⟨b, 1, none⟩)) fun a1 w_ hK => ?_) ?_
            · exact ⟨by kernel_rfl, by kernel_rfl⟩
            refine wpV_cons e2 (j1op (by decide) (Instr.loadAt 22 (.pointer (some ⟨b, 1, none⟩))) (.int .u64 tv) fun a1 w_ hK => ?_) ?_
            · exact ⟨by kernel_rfl, by kernel_rfl, run_load1 (by kernel_rfl) (by rw [(gcell hK.heap (i := 1) (by omega)).1, unhide Htv]; rfl)⟩
            refine wpV_cons e3 (j1val (by decide) (.int .u64 cause) fun a1 w_ hK => ?_) ?_
            · exact ⟨by kernel_rfl, by kernel_rfl⟩
            refine wpV_cons e4 (j1call (by decide) 16 #[.int .u64 tv, .int .u64 cause] (.int .u64 (vector tv cause)) fun a1 w_ hK => ?_) ?_
            · exact ⟨by kernel_rfl, by kernel_rfl, (vector_any tv cause (unhide Hbd).1 (unhide Hbd).2 c0 c1 w_).mono fun e w2 ⟨he, hw⟩ => ⟨he, by rw [hw]; exact hK⟩⟩
            refine wpV_cons e5 (j1store (Instr.storeAt 26 (.pointer (some ⟨b + 1, 0, none⟩)) (.agg (gl d).toArray)) fun w_ hK => ?_) ?_
            · exact ⟨by kernel_rfl, by kernel_rfl, _, store_gl hK.f2.heap d, (store_h hK.f2).f2⟩
            refine wpV_cons e6 (j1val (by decide) (.int .i64 3) fun a1 w_ hK => ?_) ?_
            · exact ⟨by kernel_rfl, by kernel_rfl⟩
            refine wpV_cons e7 (j1val (by decide) (.int .u64 (vector tv cause)) fun a1 w_ hK => ?_) wpV_nil
            · exact ⟨by kernel_rfl, by kernel_rfl⟩
          · intro w_ hJ2
            have h5 := hJ2.done (by decide)
            simp only [cond_true] at h5
            clear hJ2
            simp only [fillG, Nat.zero_add, Nat.reduceAdd, e0, e1, e2, e3, e4, e5, e6, e7, Act.put, List.setIfInBounds_toArray, List.set_cons_succ, List.set_cons_zero]
            clear e0 e1 e2 e3 e4 e5 e6 e7
            go_wp2
            refine bodyPost_ret (v := .tuple #[.agg (gl d).toArray, .int .i64 3, .int .u64 (vector tv cause)]) (res3 rfl rfl rfl rfl h5.f2.heap) rfl ⟨?_, h5.tail.tail⟩
            exact .inr ⟨unhide Hns, by rw [← unhide Hdd, unhide Htv2]; rfl⟩
end
end Go.Proofs.Ytijhlbkhcpkkdaa
