/- Layer 15, the reference: Put. -/
import Derived.Test.YtlkkmpfhhfaioaaT11
namespace Go.Proofs.Ytlkkmpfhhfaioaa
open Go.RowKit

theorem load_box36 {w : World} {g : Nat} {a c d f : Int} {gl : Bool} (h : w.heap[g]? = some (.cells #[.int .u64 a, .int .i64 c, .int .u64 d, .bool gl, .int .u64 f] 36 (0, 0))) :
    (Instr.loadAt 36 (.pointer (some ⟨g, 0, none⟩))).run Try.prog w = .ok (.agg #[.int .u64 a, .int .i64 c, .int .u64 d, .bool gl, .int .u64 f]) w :=
  run_loadAt_mid w g 0 36 [.int .u64 a, .int .i64 c, .int .u64 d, .bool gl, .int .u64 f] _ (range_blk (xs := [.int .u64 a, .int .i64 c, .int .u64 d, .bool gl, .int .u64 f]) h 0 5 _ rfl) Try.underlying36 rfl (by kernel_rfl)
theorem run_ixs (g o c n : Nat) (h : n < 8) (w : World) : (Instr.indexAt 46 (.slice (some ⟨g, o, none⟩) 8 c) (.int .i64 (n : Int))).run Try.prog w = .ok (.pointer (some ⟨g, o + n * 5, none⟩)) w := by
  have h8 : n = 0 ∨ n = 1 ∨ n = 2 ∨ n = 3 ∨ n = 4 ∨ n = 5 ∨ n = 6 ∨ n = 7 := by omega
  rcases h8 with rfl | rfl | rfl | rfl | rfl | rfl | rfl | rfl <;> (show _ = _; kernel_rfl)
section
variable {w0 w : World} {L : List HP} {seed : Int} {b : Nat} {S : Slots} {e : E}
set_option maxRecDepth 100000 in
set_option maxHeartbeats 1000000 in
theorem putR_bad (hw : e.wf) (h : bad e = true) :
    Calls Try.prog 13 #[.pointer (some ⟨b, 0, none⟩), .agg #[.int .u64 e.at_, .int .i64 e.lv, .int .u64 e.sp, .bool e.gl, .int .u64 e.lf]] w fun r w' => r = .returned (.bool false) ∧ GN w w' := by
  have hc := bad_cases e h
  obtain ⟨x, lv, sp, gl, lf⟩ := e
  have h0 := hw.a0
  have h1 := hw.a1
  simp only at hc h0 h1
  clear h
  rcases hc with hc | hc | ⟨hc0, hc1, hc⟩ | ⟨hs, hl, hc⟩
  · have d1 : decide (lv < 0) = true := decide_eq_true hc
    go_enter Try.func13, Try.ntmps13
    go_wp2
    go_quiet (fail)
    go_wp2
    go_ret
    exact ⟨rfl, ((GN.refl w).alloc _).drewN _⟩
  · have d1 : decide (lv < 0) = false := decide_eq_false (by omega)
    have d2 : decide (2 < lv) = true := decide_eq_true hc
    go_enter Try.func13, Try.ntmps13
    go_wp2
    go_quiet (fail)
    go_wp2
    go_ret
    exact ⟨rfl, ((GN.refl w).alloc _).drewN _⟩
  · have d1 : decide (lv < 0) = false := decide_eq_false (by omega)
    have d2 : decide (2 < lv) = false := decide_eq_false (by omega)
    have d3 : decide (65535 < sp) = true := decide_eq_true hc
    go_enter Try.func13, Try.ntmps13
    go_wp2
    go_quiet (fail)
    go_wp2
    go_ret
    exact ⟨rfl, ((GN.refl w).alloc _).drewN _⟩
  · have d1 : decide (lv < 0) = false := decide_eq_false (by omega)
    have d2 : decide (2 < lv) = false := decide_eq_false (by omega)
    have d3 : decide (65535 < sp) = false := decide_eq_false (by omega)
    have hz : (sizeI lv == 0) = false := beq_eq_false_iff_ne.2 (by have := sizeI_pos lv; omega)
    have ht : x.tmod (sizeI lv) = x % sizeI lv := Int.tmod_eq_emod_of_nonneg h0
    have z : (x % sizeI lv == 0) = false := beq_eq_false_iff_ne.2 hc
    have hb1 : 0 ≤ x % sizeI lv := Int.emod_nonneg _ (by have := sizeI_pos lv; omega)
    have hb2 : x % sizeI lv < sizeI lv := Int.emod_lt_of_pos _ (sizeI_pos lv)
    have hb3 := sizeI_le lv hl
    have HL := hide hl
    clear hl
    go_enter Try.func13, Try.ntmps13
    go_wp2
    go_quiet ((go_at_call 26; exact Calls.quiet_of_same (size_any lv (unhide HL) _)))
    go_wp2
    go_ret
    exact ⟨rfl, ((GN.refl w).alloc _).drewN _⟩
set_option maxRecDepth 100000 in
set_option maxHeartbeats 1000000 in
theorem putR_ok {g1 o1 c1 g2 o2 c2 : Nat} (h : Heap w0 w (HP.blk b #[.slice (some ⟨g1, o1, none⟩) 8 c1, .slice (some ⟨g2, o2, none⟩) 8 c2, .int .u64 seed] 61 :: HP.slw (.slice (some ⟨g1, o1, none⟩) 8 c1) 5 8 (L40 S) :: HP.slw (.slice (some ⟨g2, o2, none⟩) 8 c2) 1 8 (L8 S) :: L)) (hI : Inv S) (hsd : 0 ≤ seed ∧ seed < 18446744073709551616) (hw : e.wf) (hb : bad e = false) :
    Calls Try.prog 13 #[.pointer (some ⟨b, 0, none⟩), .agg #[.int .u64 e.at_, .int .i64 e.lv, .int .u64 e.sp, .bool e.gl, .int .u64 e.lf]] w fun r w' => r = .returned (.bool true) ∧ Heap w0 w' (HP.tr b (putSeed S seed e) (putS S seed e) :: L) := by
  obtain ⟨hok, hs, hc⟩ := ok_of e hw hb
  have hfinal : Inv (putS S seed e) ∧ 0 ≤ putSeed S seed e ∧ putSeed S seed e < 18446744073709551616 := by
    unfold putS putSeed
    rw [hb]
    cases hp : place S e.key with
    | some n => exact ⟨(place_put_same hI hok hp e.key).1, hsd⟩
    | none => exact ⟨hI.put_some hok fun m f m8 _ hf => place_none hp m f m8 hf, slotSeed_bd S hsd.1 hsd.2⟩
  have hps : putS S seed e = put S ((place S e.key).getD (slot S seed)) (some e) := by unfold putS; rw [hb]; rfl
  have hpseed : putSeed S seed e = pseed S seed e.key := by unfold putSeed pseed; rw [hb]; rfl
  have hn8 : (place S e.key).getD (slot S seed) < 8 := by
    cases hp : place S e.key with
    | some n => exact (place_some hp).1
    | none => exact slot_lt S seed
  have hl := lv_cases hok
  have JX := (h.new #[.int .u64 e.at_, .int .i64 e.lv, .int .u64 e.sp, .bool e.gl, .int .u64 e.lf] 36).b4
  have hpl := fun q : Nat => hide (place_h (JX.drewN q) hI hok)
  generalize hnn : (place S e.key).getD (slot S seed) = n at *
  obtain ⟨x, lv, sp, gl, lf⟩ := e
  have h0 := hw.a0
  have h1 := hw.a1
  simp only at hl h0 h1 hs hc
  have d1 : decide (lv < 0) = false := decide_eq_false (by omega)
  have d2 : decide (2 < lv) = false := decide_eq_false (by omega)
  have d3 : decide (65535 < sp) = false := decide_eq_false (by omega)
  have hz : (sizeI lv == 0) = false := beq_eq_false_iff_ne.2 (by have := sizeI_pos lv; omega)
  have ht : x.tmod (sizeI lv) = x % sizeI lv := Int.tmod_eq_emod_of_nonneg h0
  have z : (x % sizeI lv == 0) = true := beq_iff_eq.2 hc
  have hb1 : 0 ≤ x % sizeI lv := Int.emod_nonneg _ (by have := sizeI_pos lv; omega)
  have hb2 : x % sizeI lv < sizeI lv := Int.emod_lt_of_pos _ (sizeI_pos lv)
  have hb3 := sizeI_le lv hl
  have HL := hide hl
  have HN := hide hnn
  clear hl h hnn
  go_enter Try.func13, Try.ntmps13
  go_wp2
  go_quiet ((go_at_call 26; exact Calls.quiet_of_same (size_any lv (unhide HL) _)))
  have hc5 := cells5 (JX.f4.drewN nq).heap
  clear hz ht z hb1 hb2 hb3 d1 d2 d3
  go_wp2_with fail
  refine (unhide (hpl nq)).mono ?_
  rintro r w4 ⟨rfl, hJ⟩
  have hJ := hJ.f4
  clear hpl JX
  go_wp2
  refine wp_region_E (fun w_ => Heap w0 w_ (HP.blk w.heap.size #[.int .u64 x, .int .i64 lv, .int .u64 sp, .bool gl, .int .u64 lf] 36 :: HP.blk b #[.slice (some ⟨g1, o1, none⟩) 8 c1, .slice (some ⟨g2, o2, none⟩) 8 c2, .int .u64 (pseed S seed (⟨x, lv, sp, gl, lf⟩ : E).key)] 61 :: HP.slw (.slice (some ⟨g1, o1, none⟩) 8 c1) 5 8 (L40 S) :: HP.slw (.slice (some ⟨g2, o2, none⟩) 8 c2) 1 8 (L8 S) :: L)) GN (fun k_ v_ w_ => match k_ with
      | 0 => v_ = .pointer (some ⟨b, 0, none⟩)
      | 1 => v_ = .pointer (some ⟨b, 0, none⟩)
      | 2 => v_ = .pointer (some ⟨b, 0, none⟩)
      | 3 => v_ = .slice (some ⟨g1, o1, none⟩) 8 c1
      | 4 => v_ = .int .i64 (n : Nat)
      | 5 => v_ = .agg #[.int .u64 x, .int .i64 lv, .int .u64 sp, .bool gl, .int .u64 lf]
      | _ => v_ = .pointer (some ⟨g1, o1 + n * 5, none⟩)) fol (by kernel_rfl) ?_ ?_ (n := 7) rfl rfl rfl (by kernel_rfl) ?_ ?_
  · exact hJ.drew
  · intro k_ v_ w_ w2_ h1 hg
    split at h1 <;> exact h1
  · intro vals
    show wpG _ _ _ _ _ _ 0 (_ :: _) _
    refine wpG_cons (gval (.pointer (some ⟨b, 0, none⟩)) GN.refl fun w_ hJ hd => ?_) ?_
    · exact ⟨by kernel_rfl, by kernel_rfl, rfl⟩
    refine wpG_cons (gval (.pointer (some ⟨b, 0, none⟩)) GN.refl fun w_ hJ hd => ?_) ?_
    · have e0 : vals 0 = _ := hd 0 (by decide) (by kernel_rfl)
      rw [e0]
      exact ⟨by kernel_rfl, by kernel_rfl, rfl⟩
    refine wpG_cons (gval (.pointer (some ⟨b, 0, none⟩)) GN.refl fun w_ hJ hd => ?_) ?_
    · have e1 : vals 1 = _ := hd 1 (by decide) (by kernel_rfl)
      rw [e1]
      exact ⟨by kernel_rfl, by kernel_rfl, rfl⟩
    refine wpG_cons (gop (Instr.loadAt 46 (.pointer (some ⟨b, 0, none⟩))) (.slice (some ⟨g1, o1, none⟩) 8 c1) GN.refl fun w_ hJ hd => ?_) ?_
    · have e2 : vals 2 = _ := hd 2 (by decide) (by kernel_rfl)
      rw [e2]
      exact ⟨by kernel_rfl, by kernel_rfl, run_load1 (by kernel_rfl) (cells3 hJ.f2.heap).1, rfl⟩
    refine wpG_cons (gval (.int .i64 (n : Nat)) GN.refl fun w_ hJ hd => ?_) ?_
    · exact ⟨by kernel_rfl, by kernel_rfl, rfl⟩
    refine wpG_cons (gop (Instr.loadAt 36 (.pointer (some ⟨w.heap.size, 0, none⟩))) (.agg #[.int .u64 x, .int .i64 lv, .int .u64 sp, .bool gl, .int .u64 lf]) GN.refl fun w_ hJ hd => ?_) ?_
    · exact ⟨by kernel_rfl, by kernel_rfl, load_box36 hJ.heap, rfl⟩
    refine wpG_cons (gop (Instr.indexAt 46 (.slice (some ⟨g1, o1, none⟩) 8 c1) (.int .i64 (n : Nat))) (.pointer (some ⟨g1, o1 + n * 5, none⟩)) GN.refl fun w_ hJ hd => ?_) wpG_nil
    · have e3 : vals 3 = _ := hd 3 (by decide) (by kernel_rfl)
      have e4 : vals 4 = _ := hd 4 (by decide) (by kernel_rfl)
      rw [e3, e4]
      exact ⟨by kernel_rfl, by kernel_rfl, run_ixs _ _ _ _ hn8 w_, rfl⟩
  · intro vals w_ hJ hf
    have e0 : vals 0 = _ := hf 0 (by decide)
    have e1 : vals 1 = _ := hf 1 (by decide)
    have e2 : vals 2 = _ := hf 2 (by decide)
    have e3 : vals 3 = _ := hf 3 (by decide)
    have e4 : vals 4 = _ := hf 4 (by decide)
    have e5 : vals 5 = _ := hf 5 (by decide)
    have e6 : vals 6 = _ := hf 6 (by decide)
    show Oper.wp _ _ (fillG vals 0 (_ :: _ :: _ :: _ :: _ :: _ :: _ :: []) _) _ _ _
    simp only [fillG, Nat.zero_add, Nat.reduceAdd, e0, e1, e2, e3, e4, e5, e6, Act.put, List.setIfInBounds_toArray, List.set_cons_succ, List.set_cons_zero]
    clear e0 e1 e2 e3 e4 e5 e6 hf
    have hJ3 := hJ.f3
    have hth : w_.there g1 (o1 + n * 5) 5 := fun j hj => by
      obtain ⟨_, q1, q2⟩ := hJ3.slw.at_ (j := n * 5 + j) (by omega)
      rw [← Nat.add_assoc] at q1 q2
      exact ⟨by rw [q1, L40_get, if_pos (by omega)]; rfl, q2⟩
    have hW := hJ3.writes (⟨x, lv, sp, gl, lf⟩ : E).cs (j := n * 5) (by show n * 5 + 5 ≤ 8 * 5; omega)
    have h40 := L40_put S n hn8 (some (⟨x, lv, sp, gl, lf⟩ : E))
    simp only [Option.getD_some] at h40
    rw [h40] at hW
    have hW := hW.b3
    refine wp_last_skip (w' := w_.setCells g1 (o1 + n * 5) (⟨x, lv, sp, gl, lf⟩ : E).cs) (m := Instr.storeAt 36 (.pointer (some ⟨g1, o1 + n * 5, none⟩)) (.agg #[.int .u64 x, .int .i64 lv, .int .u64 sp, .bool gl, .int .u64 lf])) (by kernel_rfl) (run_storeAt_mid w_ g1 _ 36 #[.int .u64 x, .int .i64 lv, .int .u64 sp, .bool gl, .int .u64 lf] hth (by kernel_rfl) (by kernel_rfl)) ?_
    show Exit.then _ _ Exit.normal (Act.put ⟨_, _⟩ none _) _
    simp only [Act.put]
    clear hth h40 hJ3 hJ
    generalize w_.setCells g1 (o1 + n * 5) (⟨x, lv, sp, gl, lf⟩ : E).cs = w5 at *
    have hb3 := cells3 hW.f2.heap
    obtain ⟨_, df, dfz⟩ := fullCell hW.f4.slw hn8
    have hW2 := (hW.f4.write (j := n) (by omega) (.bool true)).b4
    have h8 := L8_put S n hn8 (some (⟨x, lv, sp, gl, lf⟩ : E))
    simp only [Option.isSome_some] at h8
    rw [h8] at hW2
    go_wp2
    go_ret
    refine ⟨rfl, Heap.tr.2 ⟨(.slice (some ⟨g1, o1, none⟩) 8 c1, .slice (some ⟨g2, o2, none⟩) 8 c2), hfinal, ?_⟩⟩
    rw [hps, hpseed]
    exact hW2.tail
theorem putR_h (h : Heap w0 w (HP.tr b seed S :: L)) (hw : e.wf) :
    Calls Try.prog 13 #[.pointer (some ⟨b, 0, none⟩), .agg #[.int .u64 e.at_, .int .i64 e.lv, .int .u64 e.sp, .bool e.gl, .int .u64 e.lf]] w fun r w' => r = .returned (.bool (!bad e)) ∧ Heap w0 w' (HP.tr b (putSeed S seed e) (putS S seed e) :: L) := by
  cases hb : bad e with
  | true =>
    refine (putR_bad hw hb).mono fun r w' ⟨hr, hg⟩ => ⟨hr, ?_⟩
    have e1 : putSeed S seed e = seed := by unfold putSeed; rw [hb]; rfl
    have e2 : putS S seed e = S := by unfold putS; rw [hb]; rfl
    rw [e1, e2]
    exact h.grown hg
  | false =>
    obtain ⟨⟨v1, v2⟩, ⟨hI, hsd⟩, hh⟩ := Heap.tr.1 h
    obtain ⟨g1, o1, c1, rfl, _⟩ := Sl.addr hh.f2.slw (by omega)
    obtain ⟨g2, o2, c2, rfl, _⟩ := Sl.addr hh.f3.slw (by omega)
    exact putR_ok hh hI hsd hw hb
end
end Go.Proofs.Ytlkkmpfhhfaioaa
