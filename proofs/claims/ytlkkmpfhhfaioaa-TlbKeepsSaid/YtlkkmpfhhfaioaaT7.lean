/- Layer 15: free. -/
import Derived.Test.YtlkkmpfhhfaioaaT6
namespace Go.Proofs.Ytlkkmpfhhfaioaa
open Go.RowKit

theorem run_size4 (w : World) : (sizeOf 4).run Try.prog w = .ok 1 w := by kernel_rfl
theorem run_isAgg4 (w : World) : (isAgg 4).run Try.prog w = .ok false w := by kernel_rfl
theorem run_part4 {A : Array Value} {n : Nat} {v : Value} (h : A[n]? = some v) (w : World) : (part 4 A n).run Try.prog w = .ok v w := by
  unfold part
  simp only [Sem.run_bind, run_isAgg4, Result.andThen_ok, Bool.false_eq_true, if_false, h]
  rfl
theorem run_ix8 (S : Slots) (k : Nat) (hk : k < 8) (w : World) : (Instr.index 56 (.agg (L8 S).toArray) (.int .i64 (k : Int))).run Try.prog w = .ok (.bool (S k).isSome) w := by
  have h8 : (0 : Int) ≤ (k : Int) ∧ (k : Int) < ((8 : Nat) : Int) := by omega
  unfold Instr.index
  simp only [Sem.run_bind, run_asInt, Result.andThen_ok, run_underlying Try.underlying56]
  rw [if_pos h8]
  have hv : (L8 S).toArray[k * 1]? = some (.bool (S k).isSome) := by
    rw [Nat.mul_one]
    simp only [List.getElem?_toArray]
    rw [L8_get, if_pos hk]
  simp only [Sem.run_bind, run_size4, Result.andThen_ok, Int.toNat_natCast, run_part4 hv]
theorem run_ixa (b o n : Nat) (h : n < 8) (w : World) : (Instr.indexAt 55 (.pointer (some ⟨b, o, none⟩)) (.int .i64 (n : Int))).run Try.prog w = .ok (.pointer (some ⟨b, o + n * 5, none⟩)) w := by
  have h8 : n = 0 ∨ n = 1 ∨ n = 2 ∨ n = 3 ∨ n = 4 ∨ n = 5 ∨ n = 6 ∨ n = 7 := by omega
  rcases h8 with rfl | rfl | rfl | rfl | rfl | rfl | rfl | rfl <;> (show _ = _; kernel_rfl)
theorem range_ent {w : World} {b bm : Nat} {seed : Int} {S : Slots} (hb : w.heap[b]? = some (.cells (tcs seed bm S).toArray 58 (0, 0))) {n : Nat} (hn : n < 8) : w.rangeAt b (2 + n * 5) (ent S n).cs := by
  refine range_blk hb (2 + n * 5) 5 _ ?_
  apply List.ext_getElem?
  intro i
  rw [List.getElem?_take, List.getElem?_drop, tcs_get]
  by_cases h : i < 5
  · rw [if_pos h, if_pos (by omega), if_neg (by omega), if_neg (by omega), if_pos (by omega), show (2 + n * 5 + i - 2) / 5 = n by omega, show (2 + n * 5 + i - 2) % 5 = i by omega, e_cs_get _ _ h]
  · rw [if_neg h, List.getElem?_eq_none (by simp [E.cs]; omega)]
theorem load_ent {w : World} {b bm : Nat} {seed : Int} {S : Slots} (hb : w.heap[b]? = some (.cells (tcs seed bm S).toArray 58 (0, 0))) {n : Nat} (hn : n < 8) {e : E} (he : S n = some e) :
    (Instr.loadAt 33 (.pointer (some ⟨b, 2 + n * 5, none⟩))).run Try.prog w = .ok (.agg #[.int .u64 e.at_, .int .i64 e.lv, .int .u64 e.sp, .bool e.gl, .int .u64 e.lf]) w := by
  have hr := range_ent hb hn
  have hen : ent S n = e := by unfold ent; rw [he]; rfl
  rw [hen] at hr
  exact run_loadAt_mid w b (2 + n * 5) 33 e.cs _ hr Try.underlying33 rfl (by kernel_rfl)
theorem tcs_map {w : World} {b bm : Nat} {seed : Int} {S : Slots} (hb : w.heap[b]? = some (.cells (tcs seed bm S).toArray 58 (0, 0))) : w.cell? ⟨b, 1, none⟩ = some (.map (some bm)) := by
  rw [(cell_blk hb 1).1, tcs_get]; rfl
section
variable {w0 w : World} {L : List HP} {seed : Int} {b bm : Nat} {S : Slots}
set_option maxRecDepth 100000 in
set_option maxHeartbeats 1000000 in
theorem free_h (h : Heap w0 w (HP.blk b (tcs seed bm S).toArray 58 :: HP.mp K.enc K.ok bm (plF S) :: L)) (hI : Inv S) :
    Calls Try.prog 25 #[.pointer (some ⟨b, 0, none⟩)] w fun r w' => r = .returned (.int .i64 (slot S seed)) ∧ Heap w0 w' (HP.blk b (tcs (slotSeed S seed) bm S).toArray 58 :: HP.mp K.enc K.ok bm (plF (put S (slot S seed) none)) :: L) := by
  have hb := h.heap
  have hlt := lt_of_heap' hb
  have HB := hide hb
  have hrg := range_blk hb 42 8 _ (tcs_full seed bm S)
  go_enter Try.func25, Try.ntmps25
  go_wp2_with (refine wpList_load_mid rfl 56 _ rfl b 42 rfl (L8 S) _ hrg Try.underlying56 rfl (by rw [L8_len]; exact isz56) ?_)
  go_loopw [10] (fun i wr => ∃ k : Nat, i = .int .i64 k ∧ k ≤ 8 ∧ (∀ j, j < k → (S j).isSome = true) ∧ wr = w) (fun i _ => 8 - (intOf i).toNat)
  case atStart => exact ⟨0, rfl, Nat.zero_le _, fun j h => by omega, rfl⟩
  case round =>
    obtain ⟨k, rfl, hk, hall, rfl⟩ := hrel
    by_cases hlt8 : k < 8
    · have hix := run_ix8 S k hlt8
      generalize (L8 S).toArray = A8 at *
      cases hS : S k with
      | none =>
        have hf := freeN_at hlt8 hall hS
        have hs : slot S seed = k := by unfold slot; rw [hf]
        have hd : slotSeed S seed = seed := by unfold slotSeed; rw [hf]
        have hp := put_self hS
        rw [hS] at hix
        simp only [Option.isSome_none] at hix
        have HA := hide (And.intro hs (And.intro hd hp))
        have HH := hide h
        clear hS hf hs hd hp hall hrg hb HB h
        go_wp2
        go_ret
        obtain ⟨hs, hd, hp⟩ := unhide HA
        rw [hs, hd, hp]
        exact ⟨rfl, unhide HH⟩
      | some e =>
        rw [hS] at hix
        simp only [Option.isSome_some] at hix
        have HA := hide hall
        have hS := hide hS
        clear hall
        go_wp2
        go_roundw
        case rel =>
          refine ⟨k + 1, by go_num, by omega, fun j hj => ?_, trivial⟩
          by_cases hjk : j = k
          · subst hjk; rw [unhide hS]; rfl
          · exact unhide HA j (by omega)
        case measure => simp [intOf]; omega
    · obtain rfl : k = 8 := by omega
      have hf := freeN_none hall
      clear hrg
      have c0 := cell_blk hb 0
      rw [tcs_get, if_pos (by omega), if_pos rfl] at c0
      obtain ⟨c0, f0⟩ := c0
      have hsl : slot S seed = (nxt seed / 2305843009213693952).toNat := by unfold slot; rw [hf]
      have hsd : slotSeed S seed = nxt seed := by unfold slotSeed; rw [hf]
      have hn : wrap64 (IntKind.u64.wrap (IntKind.u64.wrap (6364136223846793005 * seed) + 1442695040888963407) / 2305843009213693952) = ((slot S seed : Nat) : Int) := by
        have := nxt_bd seed
        rw [hsl]
        show wrap64 (nxt seed / 2305843009213693952) = _
        unfold wrap64; omega
      obtain ⟨e, he⟩ : ∃ e, S (slot S seed) = some e := Option.isSome_iff_exists.1 (hall _ (slot_lt S seed))
      have hJ0 := h.setl 0 (.int .u64 (nxt seed))
      rw [tcs_seed] at hJ0
      have HN := hide hn
      clear hn hsl hall hf
      go_wp2
      rw [unhide HN]
      have hok := hI.ok _ _ he
      refine wp_region_E (fun w_ => Heap w0 w_ (HP.blk b (tcs (nxt seed) bm S).toArray 58 :: HP.mp K.enc K.ok bm (plF S) :: L)) GN (fun k_ v_ w_ => match k_ with
          | 0 => v_ = .pointer (some ⟨b, 0, none⟩)
          | 1 => v_ = .pointer (some ⟨b, 0, none⟩)
          | 2 => v_ = .pointer (some ⟨b, 1, none⟩)
          | 3 => v_ = .map (some bm)
          | 4 => v_ = .pointer (some ⟨b, 0, none⟩)
          | 5 => v_ = .int .i64 (slot S seed : Nat)
          | 6 => v_ = .pointer (some ⟨b, 0, none⟩)
          | 7 => v_ = .pointer (some ⟨b, 2, none⟩)
          | 8 => v_ = .pointer (some ⟨b, 2 + slot S seed * 5, none⟩)
          | 9 => v_ = .agg #[.int .u64 e.at_, .int .i64 e.lv, .int .u64 e.sp, .bool e.gl, .int .u64 e.lf]
          | _ => v_ = e.key.enc) fol (by kernel_rfl) ?_ ?_ (n := 11) rfl rfl rfl (by kernel_rfl) ?_ ?_
      · exact hJ0.drew
      · intro k_ v_ w_ w2_ h1 hg
        split at h1 <;> exact h1
      · intro vals
        show wpG _ _ _ _ _ _ 0 (_ :: _) _
        refine wpG_cons (gval (.pointer (some ⟨b, 0, none⟩)) GN.refl fun w_ hJ hd => ?_) ?_
        · exact ⟨by kernel_rfl, by kernel_rfl, rfl⟩
        refine wpG_cons (gval (.pointer (some ⟨b, 0, none⟩)) GN.refl fun w_ hJ hd => ?_) ?_
        · have e0 : vals 0 = _ := hd 0 (by decide) (by kernel_rfl)
          rw [e0]
          exact ⟨by kernel_rfl, by kernel_rfl, rfl⟩
        refine wpG_cons (gval (.pointer (some ⟨b, 1, none⟩)) GN.refl fun w_ hJ hd => ?_) ?_
        · have e1 : vals 1 = _ := hd 1 (by decide) (by kernel_rfl)
          rw [e1]
          exact ⟨by kernel_rfl, by kernel_rfl, rfl⟩
        refine wpG_cons (gop (Instr.loadAt 54 (.pointer (some ⟨b, 1, none⟩))) (.map (some bm)) GN.refl fun w_ hJ hd => ?_) ?_
        · have e2 : vals 2 = _ := hd 2 (by decide) (by kernel_rfl)
          rw [e2]
          exact ⟨by kernel_rfl, by kernel_rfl, run_load1 (by kernel_rfl) (tcs_map hJ.heap), rfl⟩
        refine wpG_cons (gval (.pointer (some ⟨b, 0, none⟩)) GN.refl fun w_ hJ hd => ?_) ?_
        · exact ⟨by kernel_rfl, by kernel_rfl, rfl⟩
        refine wpG_cons (gval (.int .i64 (slot S seed : Nat)) GN.refl fun w_ hJ hd => ?_) ?_
        · exact ⟨by kernel_rfl, by kernel_rfl, rfl⟩
        refine wpG_cons (gval (.pointer (some ⟨b, 0, none⟩)) GN.refl fun w_ hJ hd => ?_) ?_
        · have e4 : vals 4 = _ := hd 4 (by decide) (by kernel_rfl)
          rw [e4]
          exact ⟨by kernel_rfl, by kernel_rfl, rfl⟩
        refine wpG_cons (gval (.pointer (some ⟨b, 2, none⟩)) GN.refl fun w_ hJ hd => ?_) ?_
        · have e6 : vals 6 = _ := hd 6 (by decide) (by kernel_rfl)
          rw [e6]
          exact ⟨by kernel_rfl, by kernel_rfl, rfl⟩
        refine wpG_cons (gop (Instr.indexAt 55 (.pointer (some ⟨b, 2, none⟩)) (.int .i64 (slot S seed : Nat))) (.pointer (some ⟨b, 2 + slot S seed * 5, none⟩)) GN.refl fun w_ hJ hd => ?_) ?_
        · have e7 : vals 7 = _ := hd 7 (by decide) (by kernel_rfl)
          have e5 : vals 5 = _ := hd 5 (by decide) (by kernel_rfl)
          rw [e7, e5]
          exact ⟨by kernel_rfl, by kernel_rfl, run_ixa b 2 _ (slot_lt S seed) w_, rfl⟩
        refine wpG_cons (gop (Instr.loadAt 33 (.pointer (some ⟨b, 2 + slot S seed * 5, none⟩))) (.agg #[.int .u64 e.at_, .int .i64 e.lv, .int .u64 e.sp, .bool e.gl, .int .u64 e.lf]) GN.refl fun w_ hJ hd => ?_) ?_
        · have e8 : vals 8 = _ := hd 8 (by decide) (by kernel_rfl)
          rw [e8]
          exact ⟨by kernel_rfl, by kernel_rfl, load_ent hJ.heap (slot_lt S seed) he, rfl⟩
        refine wpG_cons (gcall 24 #[.agg #[.int .u64 e.at_, .int .i64 e.lv, .int .u64 e.sp, .bool e.gl, .int .u64 e.lf]] fun w_ hJ hd => ?_) wpG_nil
        · have e9 : vals 9 = _ := hd 9 (by decide) (by kernel_rfl)
          rw [e9]
          exact ⟨by kernel_rfl, by kernel_rfl, (key_any e w_).mono fun _ w' ⟨hr, hg⟩ => ⟨_, hr, hJ.grown hg, hg, rfl⟩⟩
      · intro vals w_ hJ hf
        have e0 : vals 0 = _ := hf 0 (by decide)
        have e1 : vals 1 = _ := hf 1 (by decide)
        have e2 : vals 2 = _ := hf 2 (by decide)
        have e3 : vals 3 = _ := hf 3 (by decide)
        have e4 : vals 4 = _ := hf 4 (by decide)
        have e5 : vals 5 = _ := hf 5 (by decide)
        have e6 : vals 6 = _ := hf 6 (by decide)
        have e7 : vals 7 = _ := hf 7 (by decide)
        have e8 : vals 8 = _ := hf 8 (by decide)
        have e9 : vals 9 = _ := hf 9 (by decide)
        have e10 : vals 10 = _ := hf 10 (by decide)
        show Oper.wp _ _ (fillG vals 0 (_ :: _ :: _ :: _ :: _ :: _ :: _ :: _ :: _ :: _ :: _ :: []) _) _ _ _
        simp only [fillG, Nat.zero_add, Nat.reduceAdd, e0, e1, e2, e3, e4, e5, e6, e7, e8, e9, e10, Act.put, List.setIfInBounds_toArray, List.set_cons_succ, List.set_cons_zero]
        clear e0 e1 e2 e3 e4 e5 e6 e7 e8 e9 e10 hf
        obtain ⟨w2, hr, hJ2, _⟩ := hJ.f2.mpDel keyLaw (E.key_ok hok) #[54, 64] rfl 0
        refine wp_last_value (w' := w2) (v := .tuple #[]) ?_ ?_
        · exact Eq.trans (b := Sem.run Try.prog (do let r ← Builtin.delete_ #[54, 64] 0 #[.map (some bm), e.key.enc]; pure (Next.value r)) w_) (by kernel_rfl) (run_val hr)
        · show Exit.then _ _ Exit.normal (Act.put ⟨_, _⟩ none _) _
          simp only [Act.put]
          go_wp2
          go_ret
          refine ⟨rfl, ?_⟩
          rw [hsd, plF_put_none hI (slot_lt S seed) he]
          exact hJ2.f2
end
end Go.Proofs.Ytlkkmpfhhfaioaa
