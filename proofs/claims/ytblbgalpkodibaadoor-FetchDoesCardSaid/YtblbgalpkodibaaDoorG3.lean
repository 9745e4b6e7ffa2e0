/- Layer 18: Learn. -/
import Derived.Test.YtblbgalpkodibaaDoorG2
namespace Go.Proofs.YtblbgalpkodibaaDoor
open Go.RowKit

def setRow (c : St) (n : Nat) (pc tgt kind : Int) : St := upd (upd (upd c (n * 3) pc) (n * 3 + 1) tgt) (n * 3 + 2) kind
def lRow (c : St) (pc kind : Int) (taken : Bool) (tgt : Int) : St := if taken = true ∨ kind ≠ 1 then setRow c (rowN pc) pc tgt kind else c
def lCtr (c : St) (k : Nat) (taken : Bool) : St :=
  if taken then upd (upd (upd c 117 (c 117 * 2 % 64)) (48 + k) (min (c (48 + k) + 1) 3)) 117 (c 117 * 2 % 64 + 1)
  else if 0 < c (48 + k) then upd (upd c 117 (c 117 * 2 % 64)) (48 + k) (c (48 + k) - 1) else upd c 117 (c 117 * 2 % 64)
/-- What Learn leaves. -/
def lSt (c : St) (pc kind : Int) (taken : Bool) (tgt : Int) : St :=
  if kind < 1 ∨ 4 < kind then c else if kind ≠ 1 then lRow c pc kind taken tgt else lCtr (lRow c pc kind taken tgt) (ctrN pc (c 117)) taken
theorem setRow_out {c : St} {n : Nat} {pc tgt kind : Int} (i : Nat) (h : 48 ≤ i) (hn : n < 16) : setRow c n pc tgt kind i = c i := by
  unfold setRow upd
  rw [if_neg (by omega), if_neg (by omega), if_neg (by omega)]
theorem and63 (x : Int) (h0 : 0 ≤ x) (h1 : x < 18446744073709551616) : bits .and .u64 x 63 = x % 64 := by
  rw [u64_and x 63 h0 h1 (by omega) (by omega)]
  have : x.toNat &&& (63 : Int).toNat = x.toNat % 64 := Nat.and_two_pow_sub_one_eq_mod x.toNat 6
  rw [this]; omega
section
variable {w0 w : World} {L : List HP} {b : Nat} {c : St}
theorem there_row {w : World} {n : Nat} (h : w.heap[b]? = some (.cells (gl c).toArray 78 (0, 0))) (hn : n < 16) : w.there b (n * 3) 3 :=
  there_blk h (by rw [gl_len]; omega)
theorem Heap.gsetRow (h : Heap w0 w (HP.blk b (gl c).toArray 78 :: L)) {n : Nat} (hn : n < 16) (pc tgt kind : Int) : Heap w0 (w.setCells b (n * 3) [.int .u64 pc, .int .u64 tgt, .int .i64 kind]) (HP.blk b (gl (setRow c n pc tgt kind)).toArray 78 :: L) :=
  ((h.gset (n * 3) pc (gk_row hn).1).gset (n * 3 + 1) tgt (gk_row hn).2.1).gset (n * 3 + 2) kind (gk_row hn).2.2
theorem GI.setRow (hI : GI c) {n : Nat} (hn : n < 16) {pc tgt kind : Int} (p0 : 0 ≤ pc) (p1 : pc < 18446744073709551616) (t0 : 0 ≤ tgt) (t1 : tgt < 18446744073709551616) (k0 : 0 ≤ kind) (k1 : kind ≤ 4) : GI (setRow c n pc tgt kind) := by
  refine ⟨fun i h h2 => ?_, fun i h => ?_, fun i h => ?_, fun i h => ?_, ?_, ?_, fun i h => ?_⟩
  · unfold Go.Proofs.YtblbgalpkodibaaDoor.setRow upd
    by_cases e1 : i = n * 3 + 2
    · omega
    · rw [if_neg e1]
      by_cases e2 : i = n * 3 + 1
      · rw [if_pos e2]; exact ⟨t0, t1⟩
      · rw [if_neg e2]
        by_cases e3 : i = n * 3
        · rw [if_pos e3]; exact ⟨p0, p1⟩
        · rw [if_neg e3]; exact hI.row i h h2
  · unfold Go.Proofs.YtblbgalpkodibaaDoor.setRow upd
    by_cases e : i = n
    · rw [if_pos (by omega)]; exact ⟨k0, k1⟩
    · rw [if_neg (by omega), if_neg (by omega), if_neg (by omega)]; exact hI.kind i h
  · rw [setRow_out _ (by omega) hn]; exact hI.ctr i h
  · rw [setRow_out _ (by omega) hn]; exact hI.stk i h
  · rw [setRow_out _ (by omega) hn]; exact hI.size
  · rw [setRow_out _ (by omega) hn]; exact hI.hist
  · rw [setRow_out _ (by omega) hn, setRow_out _ (by omega) hn]; exact hI.zero i h
set_option maxRecDepth 100000 in
set_option maxHeartbeats 2000000 in
theorem learn_k (h : Heap w0 w (HP.blk b (gl c).toArray 78 :: L)) (hI : GI c) (pc kind : Int) (taken : Bool) (tgt : Int) (p0 : 0 ≤ pc) (p1 : pc < 18446744073709551616) (t0 : 0 ≤ tgt) (t1 : tgt < 18446744073709551616) :
    Calls Tryd.prog 26 #[.pointer (some ⟨b, 0, none⟩), .int .u64 pc, .int .i64 kind, .bool taken, .int .u64 tgt] w fun r w' => r = .returned (.tuple #[]) ∧ Heap w0 w' (HP.blk b (gl (lSt c pc kind taken tgt)).toArray 78 :: L) := by
  obtain ⟨w1, hw1⟩ : ∃ w1, w1 = w := ⟨_, rfl⟩
  rw [← hw1] at h ⊢
  clear hw1
  have hlt := lt_of_heap' h.heap
  have hr := rowN_lt pc
  have hh := hI.hist
  go_enter Tryd.func26, Tryd.ntmps26
  by_cases q1 : kind < 1
  · have z1 : decide (kind < 1) = true := decide_eq_true q1
    have hst : lSt c pc kind taken tgt = c := by unfold lSt; rw [if_pos (.inl q1)]
    go_wp2
    try rw [hst]
    exact bodyPost_ret (v := .tuple #[]) (by simp [results, Tryd.results26, go_sem]) rfl ⟨rfl, h⟩
  · have z1 : decide (kind < 1) = false := decide_eq_false q1
    by_cases q4 : 4 < kind
    · have z4 : decide (4 < kind) = true := decide_eq_true q4
      have hst : lSt c pc kind taken tgt = c := by unfold lSt; rw [if_pos (.inr q4)]
      go_wp2
      try rw [hst]
      exact bodyPost_ret (v := .tuple #[]) (by simp [results, Tryd.results26, go_sem]) rfl ⟨rfl, h⟩
    · have z4 : decide (4 < kind) = false := decide_eq_false q4
      by_cases q : kind = 1
      · subst q
        have hc := ctrN_lt pc (c 117)
        cases taken with
        | true =>
          go_wp2_with fail
          refine (row_any b pc p0 p1 _).mono ?_
          rintro r w2 ⟨rfl, hw⟩
          replace hw := hw.symm
          subst hw
          have Hth := hide (there_row h.heap hr)
          go_wp2_with (refine wpList_store_mid rfl 74 _ _ rfl b (rowN pc * 3) #[.int .u64 pc, .int .u64 tgt, .int .i64 1] rfl rfl ?_ (by kernel_rfl) (by kernel_rfl) ?_
                       rotate_left
                       refine unhide ?_)
          rotate_left
          · exact unhide Hth
          have h4 := h.gsetRow hr pc tgt 1
          change Hid (wpList _ _ _ _ _ (w1.setCells b (rowN pc * 3) [.int .u64 pc, .int .u64 tgt, .int .i64 1]))
          generalize w1.setCells b (rowN pc * 3) [.int .u64 pc, .int .u64 tgt, .int .i64 1] = w4 at *
          refine hide ?_
          clear h Hth
          have hlt := lt_of_heap' h4.heap
          have hI1 := hI.setRow hr p0 p1 t0 t1 (show (0 : Int) ≤ 1 by decide) (show (1 : Int) ≤ 4 by decide)
          have hc1 : setRow c (rowN pc) pc tgt 1 117 = c 117 := setRow_out 117 (by omega) hr
          have hc2 : setRow c (rowN pc) pc tgt 1 (48 + ctrN pc (c 117)) = c (48 + ctrN pc (c 117)) := setRow_out _ (by omega) hr
          have HS := hide (show lSt c pc 1 true tgt = lCtr (setRow c (rowN pc) pc tgt 1) (ctrN pc (c 117)) true from by simp [lSt, lRow])
          generalize setRow c (rowN pc) pc tgt 1 = c1 at *
          have Hc1 := hide hc1
          go_wp2_with fail
          refine (ctr_any h4.heap hI1 pc p0 p1).mono ?_
          rintro r w5 ⟨rfl, nd, rfl⟩
          have h5 := h4.drewN nd
          rw [hc1]
          clear h4
          have hlt := lt_of_heap' h5.heap
          have d1 := (gcell h5.heap (i := 117) (by omega)).1
          have d1f := (gcell h5.heap (i := 117) (by omega)).2
          rw [show gk 117 = .u64 from rfl, hc1] at d1
          have d2 := (gcell h5.heap (i := 48 + ctrN pc (c 117)) (by omega)).1
          have d2f := (gcell h5.heap (i := 48 + ctrN pc (c 117)) (by omega)).2
          rw [gk_ctr hc, hc2] at d2
          clear hc1
          have Hc2 := hide hc2
          clear hc2
          have e1 := and63 (c 117 * 2) (by omega) (by omega)
          have hcb := hI.ctr _ hc
          have hcv : c (48 + ctrN pc (c 117)) = 0 ∨ c (48 + ctrN pc (c 117)) = 1 ∨ c (48 + ctrN pc (c 117)) = 2 ∨ c (48 + ctrN pc (c 117)) = 3 := by omega
          rcases hcv with hv | hv | hv | hv
          · rw [hv] at d2
            have Hv := hide hv
            clear hv hcb
            go_wp2
            have h7 := ((h5.gset 117 (c 117 * 2 % 64) (k := .u64) rfl).gset (48 + ctrN pc (c 117)) 1 (gk_ctr hc)).gset 117 (c 117 * 2 % 64 + 1) (k := .u64) rfl
            rw [unhide HS, show lCtr c1 (ctrN pc (c 117)) true = upd (upd (upd c1 117 (c 117 * 2 % 64)) (48 + ctrN pc (c 117)) 1) 117 (c 117 * 2 % 64 + 1) from by
              unfold lCtr
              rw [if_pos rfl, unhide Hc1, unhide Hc2, unhide Hv]
              rfl]
            exact bodyPost_end (v := .tuple #[]) (by simp [results, Tryd.results26, go_sem]) rfl ⟨rfl, h7⟩
          · rw [hv] at d2
            have Hv := hide hv
            clear hv hcb
            go_wp2
            have h7 := ((h5.gset 117 (c 117 * 2 % 64) (k := .u64) rfl).gset (48 + ctrN pc (c 117)) 2 (gk_ctr hc)).gset 117 (c 117 * 2 % 64 + 1) (k := .u64) rfl
            rw [unhide HS, show lCtr c1 (ctrN pc (c 117)) true = upd (upd (upd c1 117 (c 117 * 2 % 64)) (48 + ctrN pc (c 117)) 2) 117 (c 117 * 2 % 64 + 1) from by
              unfold lCtr
              rw [if_pos rfl, unhide Hc1, unhide Hc2, unhide Hv]
              rfl]
            exact bodyPost_end (v := .tuple #[]) (by simp [results, Tryd.results26, go_sem]) rfl ⟨rfl, h7⟩
          · rw [hv] at d2
            have Hv := hide hv
            clear hv hcb
            go_wp2
            have h7 := ((h5.gset 117 (c 117 * 2 % 64) (k := .u64) rfl).gset (48 + ctrN pc (c 117)) 3 (gk_ctr hc)).gset 117 (c 117 * 2 % 64 + 1) (k := .u64) rfl
            rw [unhide HS, show lCtr c1 (ctrN pc (c 117)) true = upd (upd (upd c1 117 (c 117 * 2 % 64)) (48 + ctrN pc (c 117)) 3) 117 (c 117 * 2 % 64 + 1) from by
              unfold lCtr
              rw [if_pos rfl, unhide Hc1, unhide Hc2, unhide Hv]
              rfl]
            exact bodyPost_end (v := .tuple #[]) (by simp [results, Tryd.results26, go_sem]) rfl ⟨rfl, h7⟩
          · rw [hv] at d2
            have Hv := hide hv
            clear hv hcb
            go_wp2
            have h7 := ((h5.gset 117 (c 117 * 2 % 64) (k := .u64) rfl).gset (48 + ctrN pc (c 117)) 3 (gk_ctr hc)).gset 117 (c 117 * 2 % 64 + 1) (k := .u64) rfl
            rw [unhide HS, show lCtr c1 (ctrN pc (c 117)) true = upd (upd (upd c1 117 (c 117 * 2 % 64)) (48 + ctrN pc (c 117)) 3) 117 (c 117 * 2 % 64 + 1) from by
              unfold lCtr
              rw [if_pos rfl, unhide Hc1, unhide Hc2, unhide Hv]
              rfl]
            exact bodyPost_end (v := .tuple #[]) (by simp [results, Tryd.results26, go_sem]) rfl ⟨rfl, h7⟩
        | false =>
          go_wp2_with fail
          refine (ctr_any h.heap hI pc p0 p1).mono ?_
          rintro r w5 ⟨rfl, nd, rfl⟩
          have h5 := h.drewN nd
          have hlt := lt_of_heap' h5.heap
          have d1 := (gcell h5.heap (i := 117) (by omega)).1
          have d1f := (gcell h5.heap (i := 117) (by omega)).2
          rw [show gk 117 = .u64 from rfl] at d1
          have d2 := (gcell h5.heap (i := 48 + ctrN pc (c 117)) (by omega)).1
          have d2f := (gcell h5.heap (i := 48 + ctrN pc (c 117)) (by omega)).2
          rw [gk_ctr hc] at d2
          have e1 := and63 (c 117 * 2) (by omega) (by omega)
          have hcb := hI.ctr _ hc
          by_cases qc : 0 < c (48 + ctrN pc (c 117))
          · have zc : decide (0 < c (48 + ctrN pc (c 117))) = true := decide_eq_true qc
            go_wp2
            have h7 := (h5.gset 117 (c 117 * 2 % 64) (k := .u64) rfl).gset (48 + ctrN pc (c 117)) (c (48 + ctrN pc (c 117)) - 1) (gk_ctr hc)
            rw [show lSt c pc 1 false tgt = upd (upd c 117 (c 117 * 2 % 64)) (48 + ctrN pc (c 117)) (c (48 + ctrN pc (c 117)) - 1) from by
              simp [lSt, lRow, lCtr, qc]]
            exact bodyPost_end (v := .tuple #[]) (by simp [results, Tryd.results26, go_sem]) rfl ⟨rfl, h7⟩
          · have zc : decide (0 < c (48 + ctrN pc (c 117))) = false := decide_eq_false qc
            go_wp2
            have h7 := h5.gset 117 (c 117 * 2 % 64) (k := .u64) rfl
            rw [show lSt c pc 1 false tgt = upd c 117 (c 117 * 2 % 64) from by
              simp [lSt, lRow, lCtr]
              omega]
            exact bodyPost_end (v := .tuple #[]) (by simp [results, Tryd.results26, go_sem]) rfl ⟨rfl, h7⟩
      · have z : (kind == 1) = false := beq_eq_false_iff_ne.2 q
        have z' : (kind != 1) = true := bne_iff_ne.2 q
        have hst : lSt c pc kind taken tgt = setRow c (rowN pc) pc tgt kind := by unfold lSt lRow; rw [if_neg (by omega), if_pos q, if_pos (.inr q)]
        cases taken with
        | true =>
          go_wp2_with fail
          refine (row_any b pc p0 p1 _).mono ?_
          rintro r w2 ⟨rfl, hw⟩
          replace hw := hw.symm
          subst hw
          have Hth := hide (there_row h.heap hr)
          go_wp2_with (refine wpList_store_mid rfl 74 _ _ rfl b (rowN pc * 3) #[.int .u64 pc, .int .u64 tgt, .int .i64 kind] rfl rfl ?_ (by kernel_rfl) (by kernel_rfl) ?_
                       rotate_left
                       refine unhide ?_)
          rotate_left
          · exact unhide Hth
          have h4 := h.gsetRow hr pc tgt kind
          change Hid (wpList _ _ _ _ _ (w1.setCells b (rowN pc * 3) [.int .u64 pc, .int .u64 tgt, .int .i64 kind]))
          generalize w1.setCells b (rowN pc * 3) [.int .u64 pc, .int .u64 tgt, .int .i64 kind] = w4 at *
          refine hide ?_
          clear h Hth
          have hlt := lt_of_heap' h4.heap
          go_wp2
          try rw [hst]
          exact bodyPost_ret (v := .tuple #[]) (by simp [results, Tryd.results26, go_sem]) rfl ⟨rfl, h4⟩
        | false =>
          go_wp2_with fail
          refine (row_any b pc p0 p1 _).mono ?_
          rintro r w2 ⟨rfl, hw⟩
          replace hw := hw.symm
          subst hw
          have Hth := hide (there_row h.heap hr)
          go_wp2_with (refine wpList_store_mid rfl 74 _ _ rfl b (rowN pc * 3) #[.int .u64 pc, .int .u64 tgt, .int .i64 kind] rfl rfl ?_ (by kernel_rfl) (by kernel_rfl) ?_
                       rotate_left
                       refine unhide ?_)
          rotate_left
          · exact unhide Hth
          have h4 := h.gsetRow hr pc tgt kind
          change Hid (wpList _ _ _ _ _ (w1.setCells b (rowN pc * 3) [.int .u64 pc, .int .u64 tgt, .int .i64 kind]))
          generalize w1.setCells b (rowN pc * 3) [.int .u64 pc, .int .u64 tgt, .int .i64 kind] = w4 at *
          refine hide ?_
          clear h Hth
          have hlt := lt_of_heap' h4.heap
          go_wp2
          try rw [hst]
          exact bodyPost_ret (v := .tuple #[]) (by simp [results, Tryd.results26, go_sem]) rfl ⟨rfl, h4⟩
end
end Go.Proofs.YtblbgalpkodibaaDoor
