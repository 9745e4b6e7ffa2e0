/- Layer 15: Fence. -/
import Derived.Test.YtlkkmpfhhfaioaaT9
namespace Go.Proofs.Ytlkkmpfhhfaioaa
open Go.RowKit

/-- What a fence names. -/
structure Fn where
  bA : Bool
  a : Int
  bS : Bool
  sp : Int
def goes (p : Fn) (e : E) : Bool := (!p.bA || hasB e p.a) && (!p.bS || (!e.gl && decide (e.sp = p.sp)))
def fen1 (p : Fn) (o : Option E) : Option E := match o with
  | some e => if goes p e then none else some e
  | none => none
def fenK (S : Slots) (p : Fn) (k : Nat) : Slots := fun n => if n < k then fen1 p (S n) else S n
theorem fenK_0 (S : Slots) (p : Fn) : fenK S p 0 = S := by funext n; simp [fenK]
theorem fenK_at (S : Slots) (p : Fn) (k : Nat) : fenK S p k k = S k := by simp [fenK]
theorem fenK_stay {S : Slots} {p : Fn} {k : Nat} (h : fen1 p (S k) = S k) : fenK S p (k + 1) = fenK S p k := by
  funext n
  unfold fenK
  by_cases h1 : n < k
  · rw [if_pos h1, if_pos (by omega)]
  · rw [if_neg h1]
    by_cases h2 : n < k + 1
    · rw [if_pos h2, show n = k by omega, h]
    · rw [if_neg h2]
theorem fenK_go {S : Slots} {p : Fn} {k : Nat} {e : E} (_ : S k = some e) (h : fen1 p (S k) = none) : fenK S p (k + 1) = put (fenK S p k) k none := by
  funext n
  unfold put fenK
  by_cases h0 : n = k
  · subst h0; rw [if_pos (by omega), if_pos rfl, h]
  · rw [if_neg h0]
    by_cases h1 : n < k
    · rw [if_pos h1, if_pos (by omega)]
    · rw [if_neg h1, if_neg (by omega)]
theorem fenK_inv {S : Slots} (h : Inv S) (p : Fn) (k : Nat) : Inv (fenK S p k) := by
  have key : ∀ n e, fenK S p k n = some e → S n = some e := by
    intro n e hn
    unfold fenK at hn
    split at hn
    · cases hs : S n with
      | none => rw [hs] at hn; cases hn
      | some f =>
        rw [hs] at hn
        unfold fen1 at hn
        simp only at hn
        split at hn
        · cases hn
        · exact hn
    · exact hn
  exact ⟨fun n e hn => h.ok n e (key n e hn), fun n m e f hn hm => h.uniq n m e f (key n e hn) (key m f hm)⟩
section
variable {w0 w : World} {L : List HP} {seed : Int} {b bm : Nat} {S : Slots} {e : E}
set_option maxRecDepth 100000 in
set_option maxHeartbeats 4000000 in
theorem fence_k (h : Heap w0 w (HP.blk b (tcs seed bm S).toArray 58 :: HP.mp K.enc K.ok bm (plF S) :: L)) (hI : Inv S) (bA : Bool) (a : Int) (bS : Bool) (sp : Int) (a0 : 0 ≤ a) (a1 : a < 18446744073709551616) :
    Calls Try.prog 16 #[.pointer (some ⟨b, 0, none⟩), .bool bA, .int .u64 a, .bool bS, .int .u64 sp] w fun r w' => r = .returned (.tuple #[]) ∧ Heap w0 w' (HP.blk b (tcs seed bm (fenK S ⟨bA, a, bS, sp⟩ 8)).toArray 58 :: HP.mp K.enc K.ok bm (plF (fenK S ⟨bA, a, bS, sp⟩ 8)) :: L) := by
  obtain ⟨p, hp⟩ : ∃ p : Fn, p = ⟨bA, a, bS, sp⟩ := ⟨_, rfl⟩
  have hb := h.heap
  have hrg := range_blk hb 2 40 _ (tcs_range seed bm S)
  have h' := h
  rw [← fenK_0 S p] at h'
  rw [← hp]
  go_enter Try.func16, Try.ntmps16
  go_wp2_with (refine wpList_load_mid rfl 55 _ rfl b 2 rfl (L40 S) _ hrg Try.underlying55 rfl (by rw [L40_len]; exact isz55) ?_)
  clear hrg hb h
  go_loopw [16] (fun i wr => ∃ k : Nat, i = .int .i64 k ∧ k ≤ 8 ∧ Heap w0 wr (HP.blk b (tcs seed bm (fenK S p k)).toArray 58 :: HP.mp K.enc K.ok bm (plF (fenK S p k)) :: L)) (fun i _ => 8 - (intOf i).toNat)
  case atStart => exact ⟨0, rfl, Nat.zero_le _, h'⟩
  case round =>
    obtain ⟨k, rfl, hk, hJ⟩ := hrel
    clear h'
    by_cases hlt8 : k < 8
    · have hfull := full_cell hJ.heap hlt8
      rw [fenK_at] at hfull
      have hbl := lt_of_heap' hJ.heap
      have hix := run_ix S k hlt8
      have HI := hide (fenK_inv hI p k)
      generalize (L40 S).toArray = A40 at *
      cases hS : S k with
      | none =>
        rw [hS] at hfull
        simp only [Option.isSome_none] at hfull
        have hgo : Hid (fen1 p (S k) = S k) := hide (by rw [hS]; rfl)
        have hS := hide hS
        go_wp2
        go_roundw
        case rel =>
          refine ⟨k + 1, by go_num, by omega, ?_⟩
          rw [fenK_stay (unhide hgo)]
          exact hJ.alloc _
        case measure => simp [intOf]; omega
      | some e =>
        have hen : ent S k = e := by unfold ent; rw [hS]; rfl
        rw [hen] at hix
        have hok := hI.ok k e hS
        have hSk := hide hS
        have hSf : Hid (fenK S p k k = some e) := hide (by rw [fenK_at]; exact hS)
        have HH := hide (has_any e hok a a0 a1)
        rw [hS] at hfull
        simp only [Option.isSome_some] at hfull
        clear hS hen
        obtain ⟨x, lv, sp', gl, lf⟩ := e
        have J4 := hJ.new #[.int .u64 x, .int .i64 lv, .int .u64 sp', .bool gl, .int .u64 lf] 33
        cases bA with
        | false =>
          have hc5 := cells5 J4.heap
          clear HH
          cases bS with
          | false =>
            have hgo : Hid (fen1 p (S k) = none) := hide (by rw [unhide hSk]; simp [fen1, goes, *])
            go_wp2
            refine wp_region_E (fun w_ => Heap w0 w_ (HP.blk wr.heap.size #[.int .u64 x, .int .i64 lv, .int .u64 sp', .bool gl, .int .u64 lf] 33 :: HP.blk b (tcs seed bm (fenK S p k)).toArray 58 :: HP.mp K.enc K.ok bm (plF (fenK S p k)) :: L)) GN (fun k_ v_ w_ => match k_ with
                | 0 => v_ = .pointer (some ⟨b, 0, none⟩)
                | 1 => v_ = .pointer (some ⟨b, 0, none⟩)
                | 2 => v_ = .pointer (some ⟨b, 1, none⟩)
                | 3 => v_ = .map (some bm)
                | 4 => v_ = .agg #[.int .u64 x, .int .i64 lv, .int .u64 sp', .bool gl, .int .u64 lf]
                | _ => v_ = (⟨x, lv, sp', gl, lf⟩ : E).key.enc) fol (by kernel_rfl) ?_ ?_ (n := 6) rfl rfl rfl (by kernel_rfl) ?_ ?_
            · exact J4.drew
            · intro k_ v_ w_ w2_ h1 hg
              split at h1 <;> exact h1
            · intro vals
              show wpG _ _ _ _ _ _ 0 (_ :: _) _
              refine wpG_cons (gval (.pointer (some ⟨b, 0, none⟩)) GN.refl fun w_ hJ hd => ?_) ?_
              · exact ⟨by kernel_rfl, by kernel_rfl, rfl⟩
              refine wpG_cons (gval (.pointer (some ⟨b, 0, none⟩)) GN.refl fun w_ hJ hd => ?_) ?_
              · have e0 : vals 0 = _ := hd 0 (by decide) (by kernel_rfl)
                rw [e0]
                exact ⟨by kernel_rfl, by kernel_rfl, rfl⟩
              refine wpG_cons (gval (.pointer (some ⟨b, 1, none⟩)) GN.refl fun w_ hJ hd => ?_) ?_
              · have e1 : vals 1 = _ := hd 1 (by decide) (by kernel_rfl)
                rw [e1]
                exact ⟨by kernel_rfl, by kernel_rfl, rfl⟩
              refine wpG_cons (gop (Instr.loadAt 54 (.pointer (some ⟨b, 1, none⟩))) (.map (some bm)) GN.refl fun w_ hJ hd => ?_) ?_
              · have e2 : vals 2 = _ := hd 2 (by decide) (by kernel_rfl)
                rw [e2]
                exact ⟨by kernel_rfl, by kernel_rfl, run_load1 (by kernel_rfl) (tcs_map hJ.f2.heap), rfl⟩
              refine wpG_cons (gop (Instr.loadAt 33 (.pointer (some ⟨wr.heap.size, 0, none⟩))) (.agg #[.int .u64 x, .int .i64 lv, .int .u64 sp', .bool gl, .int .u64 lf]) GN.refl fun w_ hJ hd => ?_) ?_
              · exact ⟨by kernel_rfl, by kernel_rfl, load_box hJ.heap, rfl⟩
              refine wpG_cons (gcall 24 #[.agg #[.int .u64 x, .int .i64 lv, .int .u64 sp', .bool gl, .int .u64 lf]] fun w_ hJ hd => ?_) wpG_nil
              · have e4 : vals 4 = _ := hd 4 (by decide) (by kernel_rfl)
                rw [e4]
                exact ⟨by kernel_rfl, by kernel_rfl, (key_any (⟨x, lv, sp', gl, lf⟩ : E) w_).mono fun _ w' ⟨hr, hg⟩ => ⟨_, hr, hJ.grown hg, hg, rfl⟩⟩
            · intro vals w_ hJ hf
              have e0 : vals 0 = _ := hf 0 (by decide)
              have e1 : vals 1 = _ := hf 1 (by decide)
              have e2 : vals 2 = _ := hf 2 (by decide)
              have e3 : vals 3 = _ := hf 3 (by decide)
              have e4 : vals 4 = _ := hf 4 (by decide)
              have e5 : vals 5 = _ := hf 5 (by decide)
              show Oper.wp _ _ (fillG vals 0 (_ :: _ :: _ :: _ :: _ :: _ :: []) _) _ _ _
              simp only [fillG, Nat.zero_add, Nat.reduceAdd, e0, e1, e2, e3, e4, e5, Act.put, List.setIfInBounds_toArray, List.set_cons_succ, List.set_cons_zero]
              clear e0 e1 e2 e3 e4 e5 hf
              obtain ⟨w6, hr6, hJ6, _⟩ := hJ.f3.mpDel keyLaw (E.key_ok hok) #[54, 64] rfl 0
              have hJ6 := hJ6.b3
              refine wp_last_value (w' := w6) (v := .tuple #[]) (Eq.trans (b := Sem.run Try.prog (do let r ← Builtin.delete_ #[54, 64] 0 #[.map (some bm), (⟨x, lv, sp', gl, lf⟩ : E).key.enc]; pure (Next.value r)) w_) (by kernel_rfl) (run_val hr6)) ?_
              show Exit.then _ _ Exit.normal (Act.put ⟨_, _⟩ none _) _
              simp only [Act.put]
              clear hr6 hJ J4
              go_wp2
              have hst : ∀ w_, (Heap w0 w_ (HP.blk wr.heap.size #[.int .u64 x, .int .i64 lv, .int .u64 sp', .bool gl, .int .u64 lf] 33 :: HP.blk b (tcs seed bm (fenK S p k)).toArray 58 :: HP.mp K.enc K.ok bm (fun k' => if k' = (⟨x, lv, sp', gl, lf⟩ : E).key then none else plF (fenK S p k) k') :: L) ∨ Heap w0 w_ (HP.blk wr.heap.size #[.int .u64 x, .int .i64 lv, .int .u64 sp', .bool gl, .int .u64 lf] 33 :: HP.blk b (setL (tcs seed bm (fenK S p k)) (2 + k * 5) E.zero.cs).toArray 58 :: HP.mp K.enc K.ok bm (fun k' => if k' = (⟨x, lv, sp', gl, lf⟩ : E).key then none else plF (fenK S p k) k') :: L)) → (Instr.storeAt 33 (.pointer (some ⟨b, 2 + k * 5, none⟩)) (.agg #[.int .u64 0, .int .i64 0, .int .u64 0, .bool false, .int .u64 0])).run Try.prog w_ = .ok () (w_.setCells b (2 + k * 5) E.zero.cs) ∧ Heap w0 (w_.setCells b (2 + k * 5) E.zero.cs) (HP.blk wr.heap.size #[.int .u64 x, .int .i64 lv, .int .u64 sp', .bool gl, .int .u64 lf] 33 :: HP.blk b (setL (tcs seed bm (fenK S p k)) (2 + k * 5) E.zero.cs).toArray 58 :: HP.mp K.enc K.ok bm (fun k' => if k' = (⟨x, lv, sp', gl, lf⟩ : E).key then none else plF (fenK S p k) k') :: L) := by
                intro w_ hJ
                rcases hJ with hJ | hJ
                · exact ⟨run_storeAt_mid w_ b _ 33 #[.int .u64 0, .int .i64 0, .int .u64 0, .bool false, .int .u64 0] (there_blk hJ.f2.heap (by simp [tcs]; omega)) (by kernel_rfl) (by kernel_rfl), (hJ.f2.sets _ _).f2⟩
                · have h3 := (hJ.f2.sets E.zero.cs (2 + k * 5)).f2
                  rw [setL_idem _ _ _ (by simp [tcs, E.cs]; omega)] at h3
                  exact ⟨run_storeAt_mid w_ b _ 33 #[.int .u64 0, .int .i64 0, .int .u64 0, .bool false, .int .u64 0] (there_blk hJ.f2.heap (by simp [setL_len, tcs]; omega)) (by kernel_rfl) (by kernel_rfl), h3⟩
              refine wp_region_E (fun w_ => Heap w0 w_ (HP.blk wr.heap.size #[.int .u64 x, .int .i64 lv, .int .u64 sp', .bool gl, .int .u64 lf] 33 :: HP.blk b (tcs seed bm (fenK S p k)).toArray 58 :: HP.mp K.enc K.ok bm (fun k' => if k' = (⟨x, lv, sp', gl, lf⟩ : E).key then none else plF (fenK S p k) k') :: L) ∨ Heap w0 w_ (HP.blk wr.heap.size #[.int .u64 x, .int .i64 lv, .int .u64 sp', .bool gl, .int .u64 lf] 33 :: HP.blk b (setL (tcs seed bm (fenK S p k)) (2 + k * 5) E.zero.cs).toArray 58 :: HP.mp K.enc K.ok bm (fun k' => if k' = (⟨x, lv, sp', gl, lf⟩ : E).key then none else plF (fenK S p k) k') :: L)) (fun x_ y_ => (Heap w0 x_ (HP.blk wr.heap.size #[.int .u64 x, .int .i64 lv, .int .u64 sp', .bool gl, .int .u64 lf] 33 :: HP.blk b (setL (tcs seed bm (fenK S p k)) (2 + k * 5) E.zero.cs).toArray 58 :: HP.mp K.enc K.ok bm (fun k' => if k' = (⟨x, lv, sp', gl, lf⟩ : E).key then none else plF (fenK S p k) k') :: L) → Heap w0 y_ (HP.blk wr.heap.size #[.int .u64 x, .int .i64 lv, .int .u64 sp', .bool gl, .int .u64 lf] 33 :: HP.blk b (setL (tcs seed bm (fenK S p k)) (2 + k * 5) E.zero.cs).toArray 58 :: HP.mp K.enc K.ok bm (fun k' => if k' = (⟨x, lv, sp', gl, lf⟩ : E).key then none else plF (fenK S p k) k') :: L))) (fun k_ v_ w_ => match k_ with
                  | 0 => v_ = .pointer (some ⟨b, 0, none⟩)
                  | 1 => v_ = .int .i64 (k : Nat)
                  | 2 => v_ = .pointer (some ⟨b, 0, none⟩)
                  | 3 => v_ = .int .i64 (k : Nat)
                  | 4 => v_ = .agg #[.int .u64 0, .int .i64 0, .int .u64 0, .bool false, .int .u64 0]
                  | 5 => v_ = .pointer (some ⟨b, 0, none⟩)
                  | 6 => v_ = .pointer (some ⟨b, 2, none⟩)
                  | 7 => v_ = .pointer (some ⟨b, 2 + k * 5, none⟩)
                  | 8 => Heap w0 w_ (HP.blk wr.heap.size #[.int .u64 x, .int .i64 lv, .int .u64 sp', .bool gl, .int .u64 lf] 33 :: HP.blk b (setL (tcs seed bm (fenK S p k)) (2 + k * 5) E.zero.cs).toArray 58 :: HP.mp K.enc K.ok bm (fun k' => if k' = (⟨x, lv, sp', gl, lf⟩ : E).key then none else plF (fenK S p k) k') :: L)
                  | 9 => v_ = .pointer (some ⟨b, 0, none⟩)
                  | 10 => v_ = .pointer (some ⟨b, 42, none⟩)
                  | _ => v_ = .pointer (some ⟨b, 42 + k, none⟩)) fol (by kernel_rfl) ?_ ?_ (n := 12) rfl rfl rfl (by kernel_rfl) ?_ ?_
              · exact .inl hJ6.drew
              · intro k_ v_ w_ w2_ h1 hg
                split at h1 <;> first | exact h1 | exact hg h1
              · intro vals
                show wpG _ _ _ _ _ _ 0 (_ :: _) _
                refine wpG_cons (gval (.pointer (some ⟨b, 0, none⟩)) (fun _ h => h) fun w_ hJ hd => ?_) ?_
                · exact ⟨by kernel_rfl, by kernel_rfl, rfl⟩
                refine wpG_cons (gval (.int .i64 (k : Nat)) (fun _ h => h) fun w_ hJ hd => ?_) ?_
                · exact ⟨by kernel_rfl, by kernel_rfl, rfl⟩
                refine wpG_cons (gval (.pointer (some ⟨b, 0, none⟩)) (fun _ h => h) fun w_ hJ hd => ?_) ?_
                · exact ⟨by kernel_rfl, by kernel_rfl, rfl⟩
                refine wpG_cons (gval (.int .i64 (k : Nat)) (fun _ h => h) fun w_ hJ hd => ?_) ?_
                · exact ⟨by kernel_rfl, by kernel_rfl, rfl⟩
                refine wpG_cons (gval (.agg #[.int .u64 0, .int .i64 0, .int .u64 0, .bool false, .int .u64 0]) (fun _ h => h) fun w_ hJ hd => ?_) ?_
                · exact ⟨by kernel_rfl, by kernel_rfl, rfl⟩
                refine wpG_cons (gval (.pointer (some ⟨b, 0, none⟩)) (fun _ h => h) fun w_ hJ hd => ?_) ?_
                · have e0 : vals 0 = _ := hd 0 (by decide) (by kernel_rfl)
                  rw [e0]
                  exact ⟨by kernel_rfl, by kernel_rfl, rfl⟩
                refine wpG_cons (gval (.pointer (some ⟨b, 2, none⟩)) (fun _ h => h) fun w_ hJ hd => ?_) ?_
                · have e5 : vals 5 = _ := hd 5 (by decide) (by kernel_rfl)
                  rw [e5]
                  exact ⟨by kernel_rfl, by kernel_rfl, rfl⟩
                refine wpG_cons (gop (Instr.indexAt 55 (.pointer (some ⟨b, 2, none⟩)) (.int .i64 (k : Nat))) (.pointer (some ⟨b, 2 + k * 5, none⟩)) (fun _ h => h) fun w_ hJ hd => ?_) ?_
                · have e6 : vals 6 = _ := hd 6 (by decide) (by kernel_rfl)
                  have e1 : vals 1 = _ := hd 1 (by decide) (by kernel_rfl)
                  rw [e6, e1]
                  exact ⟨by kernel_rfl, by kernel_rfl, run_ixa b 2 _ hlt8 w_, rfl⟩
                refine wpG_cons (gunit fun w_ hJ hd => ?_) ?_
                · have e7 : vals 7 = _ := hd 7 (by decide) (by kernel_rfl)
                  have e4 : vals 4 = _ := hd 4 (by decide) (by kernel_rfl)
                  rw [e7, e4]
                  have hS := hst w_ hJ
                  exact ⟨by kernel_rfl, _, Eq.trans (b := Sem.run Try.prog (do Instr.storeAt 33 (.pointer (some ⟨b, 2 + k * 5, none⟩)) (.agg #[.int .u64 0, .int .i64 0, .int .u64 0, .bool false, .int .u64 0]); pure Next.skip : Sem Next) w_) (by kernel_rfl) (run_unit (hS.1)), .inr hS.2, fun _ => hS.2, hS.2⟩
                refine wpG_cons (gval (.pointer (some ⟨b, 0, none⟩)) (fun _ h => h) fun w_ hJ hd => ?_) ?_
                · have e2 : vals 2 = _ := hd 2 (by decide) (by kernel_rfl)
                  rw [e2]
                  exact ⟨by kernel_rfl, by kernel_rfl, rfl⟩
                refine wpG_cons (gval (.pointer (some ⟨b, 42, none⟩)) (fun _ h => h) fun w_ hJ hd => ?_) ?_
                · have e9 : vals 9 = _ := hd 9 (by decide) (by kernel_rfl)
                  rw [e9]
                  exact ⟨by kernel_rfl, by kernel_rfl, rfl⟩
                refine wpG_cons (gop (Instr.indexAt 56 (.pointer (some ⟨b, 42, none⟩)) (.int .i64 (k : Nat))) (.pointer (some ⟨b, 42 + k, none⟩)) (fun _ h => h) fun w_ hJ hd => ?_) wpG_nil
                · have e10 : vals 10 = _ := hd 10 (by decide) (by kernel_rfl)
                  have e3 : vals 3 = _ := hd 3 (by decide) (by kernel_rfl)
                  rw [e10, e3]
                  exact ⟨by kernel_rfl, by kernel_rfl, run_ixb b 42 _ hlt8 w_, rfl⟩
              · intro vals w_ hJ hf
                have e0 : vals 0 = _ := hf 0 (by decide)
                have e1 : vals 1 = _ := hf 1 (by decide)
                have e2 : vals 2 = _ := hf 2 (by decide)
                have e3 : vals 3 = _ := hf 3 (by decide)
                have e4 : vals 4 = _ := hf 4 (by decide)
                have e5 : vals 5 = _ := hf 5 (by decide)
                have e6 : vals 6 = _ := hf 6 (by decide)
                have e7 : vals 7 = _ := hf 7 (by decide)
                have e9 : vals 9 = _ := hf 9 (by decide)
                have e10 : vals 10 = _ := hf 10 (by decide)
                have e11 : vals 11 = _ := hf 11 (by decide)
                have e8 : Heap w0 w_ (HP.blk wr.heap.size #[.int .u64 x, .int .i64 lv, .int .u64 sp', .bool gl, .int .u64 lf] 33 :: HP.blk b (setL (tcs seed bm (fenK S p k)) (2 + k * 5) E.zero.cs).toArray 58 :: HP.mp K.enc K.ok bm (fun k' => if k' = (⟨x, lv, sp', gl, lf⟩ : E).key then none else plF (fenK S p k) k') :: L) := hf 8 (by decide)
                show Oper.wp _ _ (fillG vals 0 (_ :: _ :: _ :: _ :: _ :: _ :: _ :: _ :: _ :: _ :: _ :: _ :: []) _) _ _ _
                simp only [fillG, Nat.zero_add, Nat.reduceAdd, e0, e1, e2, e3, e4, e5, e6, e7, e9, e10, e11, Act.put, List.setIfInBounds_toArray, List.set_cons_succ, List.set_cons_zero]
                clear e0 e1 e2 e3 e4 e5 e6 e7 e9 e10 e11 hf
                generalize vals 8 = v8 at *
                have hfc := there_blk (n := 1) (o := 42 + k) e8.f2.heap (by simp [setL_len, tcs]; omega)
                obtain ⟨hc1, hc2⟩ := hfc 0 (by omega)
                obtain ⟨u, hu⟩ := Option.isSome_iff_exists.1 hc1
                refine wp_last_skip (w' := w_.setCell ⟨b, 42 + k, none⟩ (.bool false)) (m := Instr.storeAt 4 (.pointer (some ⟨b, 42 + k, none⟩)) (.bool false)) (by kernel_rfl) (run_store1 (by kernel_rfl) rfl rfl hu hc2) ?_
                first | show Exit.then _ _ Exit.normal (Act.put ⟨_, _⟩ none _) _ | show Exit.inBlock _ _ Exit.normal (Act.put ⟨_, _⟩ none _) _
                simp only [Act.put]
                clear hst
                have hfin := e8.f2.setl (42 + k) (.bool false)
                have hput := tcs_put seed bm (fenK S p k) k hlt8 none
                simp only [Option.getD_none, Option.isSome_none] at hput
                rw [hput] at hfin
                clear e8 hput hu hc1 hc2
                go_wp2
                go_roundw
                case rel =>
                  refine ⟨k + 1, by go_num, by omega, ?_⟩
                  rw [fenK_go (unhide hSk) (unhide hgo), plF_put_none (unhide HI) hlt8 (unhide hSf)]
                  exact hfin.f2.tail
                case measure => simp [intOf]; omega
          | true =>
            cases gl with
            | true =>
              have hgo : Hid (fen1 p (S k) = S k) := hide (by rw [unhide hSk]; simp [fen1, goes, *])
              go_wp2
              go_roundw
              case rel =>
                refine ⟨k + 1, by go_num, by omega, ?_⟩
                rw [fenK_stay (unhide hgo)]
                exact J4.tail
              case measure => simp [intOf]; omega
            | false =>
              by_cases hsp : sp' = sp
              · subst hsp
                have hgo : Hid (fen1 p (S k) = none) := hide (by rw [unhide hSk]; simp [fen1, goes, *])
                go_wp2
                refine wp_region_E (fun w_ => Heap w0 w_ (HP.blk wr.heap.size #[.int .u64 x, .int .i64 lv, .int .u64 sp', .bool false, .int .u64 lf] 33 :: HP.blk b (tcs seed bm (fenK S p k)).toArray 58 :: HP.mp K.enc K.ok bm (plF (fenK S p k)) :: L)) GN (fun k_ v_ w_ => match k_ with
                    | 0 => v_ = .pointer (some ⟨b, 0, none⟩)
                    | 1 => v_ = .pointer (some ⟨b, 0, none⟩)
                    | 2 => v_ = .pointer (some ⟨b, 1, none⟩)
                    | 3 => v_ = .map (some bm)
                    | 4 => v_ = .agg #[.int .u64 x, .int .i64 lv, .int .u64 sp', .bool false, .int .u64 lf]
                    | _ => v_ = (⟨x, lv, sp', false, lf⟩ : E).key.enc) fol (by kernel_rfl) ?_ ?_ (n := 6) rfl rfl rfl (by kernel_rfl) ?_ ?_
                · exact J4.drew
                · intro k_ v_ w_ w2_ h1 hg
                  split at h1 <;> exact h1
                · intro vals
                  show wpG _ _ _ _ _ _ 0 (_ :: _) _
                  refine wpG_cons (gval (.pointer (some ⟨b, 0, none⟩)) GN.refl fun w_ hJ hd => ?_) ?_
                  · exact ⟨by kernel_rfl, by kernel_rfl, rfl⟩
                  refine wpG_cons (gval (.pointer (some ⟨b, 0, none⟩)) GN.refl fun w_ hJ hd => ?_) ?_
                  · have e0 : vals 0 = _ := hd 0 (by decide) (by kernel_rfl)
                    rw [e0]
                    exact ⟨by kernel_rfl, by kernel_rfl, rfl⟩
                  refine wpG_cons (gval (.pointer (some ⟨b, 1, none⟩)) GN.refl fun w_ hJ hd => ?_) ?_
                  · have e1 : vals 1 = _ := hd 1 (by decide) (by kernel_rfl)
                    rw [e1]
                    exact ⟨by kernel_rfl, by kernel_rfl, rfl⟩
                  refine wpG_cons (gop (Instr.loadAt 54 (.pointer (some ⟨b, 1, none⟩))) (.map (some bm)) GN.refl fun w_ hJ hd => ?_) ?_
                  · have e2 : vals 2 = _ := hd 2 (by decide) (by kernel_rfl)
                    rw [e2]
                    exact ⟨by kernel_rfl, by kernel_rfl, run_load1 (by kernel_rfl) (tcs_map hJ.f2.heap), rfl⟩
                  refine wpG_cons (gop (Instr.loadAt 33 (.pointer (some ⟨wr.heap.size, 0, none⟩))) (.agg #[.int .u64 x, .int .i64 lv, .int .u64 sp', .bool false, .int .u64 lf]) GN.refl fun w_ hJ hd => ?_) ?_
                  · exact ⟨by kernel_rfl, by kernel_rfl, load_box hJ.heap, rfl⟩
                  refine wpG_cons (gcall 24 #[.agg #[.int .u64 x, .int .i64 lv, .int .u64 sp', .bool false, .int .u64 lf]] fun w_ hJ hd => ?_) wpG_nil
                  · have e4 : vals 4 = _ := hd 4 (by decide) (by kernel_rfl)
                    rw [e4]
                    exact ⟨by kernel_rfl, by kernel_rfl, (key_any (⟨x, lv, sp', false, lf⟩ : E) w_).mono fun _ w' ⟨hr, hg⟩ => ⟨_, hr, hJ.grown hg, hg, rfl⟩⟩
                · intro vals w_ hJ hf
                  have e0 : vals 0 = _ := hf 0 (by decide)
                  have e1 : vals 1 = _ := hf 1 (by decide)
                  have e2 : vals 2 = _ := hf 2 (by decide)
                  have e3 : vals 3 = _ := hf 3 (by decide)
                  have e4 : vals 4 = _ := hf 4 (by decide)
                  have e5 : vals 5 = _ := hf 5 (by decide)
                  show Oper.wp _ _ (fillG vals 0 (_ :: _ :: _ :: _ :: _ :: _ :: []) _) _ _ _
                  simp only [fillG, Nat.zero_add, Nat.reduceAdd, e0, e1, e2, e3, e4, e5, Act.put, List.setIfInBounds_toArray, List.set_cons_succ, List.set_cons_zero]
                  clear e0 e1 e2 e3 e4 e5 hf
                  obtain ⟨w6, hr6, hJ6, _⟩ := hJ.f3.mpDel keyLaw (E.key_ok hok) #[54, 64] rfl 0
                  have hJ6 := hJ6.b3
                  refine wp_last_value (w' := w6) (v := .tuple #[]) (Eq.trans (b := Sem.run Try.prog (do let r ← Builtin.delete_ #[54, 64] 0 #[.map (some bm), (⟨x, lv, sp', false, lf⟩ : E).key.enc]; pure (Next.value r)) w_) (by kernel_rfl) (run_val hr6)) ?_
                  show Exit.then _ _ Exit.normal (Act.put ⟨_, _⟩ none _) _
                  simp only [Act.put]
                  clear hr6 hJ J4
                  go_wp2
                  have hst : ∀ w_, (Heap w0 w_ (HP.blk wr.heap.size #[.int .u64 x, .int .i64 lv, .int .u64 sp', .bool false, .int .u64 lf] 33 :: HP.blk b (tcs seed bm (fenK S p k)).toArray 58 :: HP.mp K.enc K.ok bm (fun k' => if k' = (⟨x, lv, sp', false, lf⟩ : E).key then none else plF (fenK S p k) k') :: L) ∨ Heap w0 w_ (HP.blk wr.heap.size #[.int .u64 x, .int .i64 lv, .int .u64 sp', .bool false, .int .u64 lf] 33 :: HP.blk b (setL (tcs seed bm (fenK S p k)) (2 + k * 5) E.zero.cs).toArray 58 :: HP.mp K.enc K.ok bm (fun k' => if k' = (⟨x, lv, sp', false, lf⟩ : E).key then none else plF (fenK S p k) k') :: L)) → (Instr.storeAt 33 (.pointer (some ⟨b, 2 + k * 5, none⟩)) (.agg #[.int .u64 0, .int .i64 0, .int .u64 0, .bool false, .int .u64 0])).run Try.prog w_ = .ok () (w_.setCells b (2 + k * 5) E.zero.cs) ∧ Heap w0 (w_.setCells b (2 + k * 5) E.zero.cs) (HP.blk wr.heap.size #[.int .u64 x, .int .i64 lv, .int .u64 sp', .bool false, .int .u64 lf] 33 :: HP.blk b (setL (tcs seed bm (fenK S p k)) (2 + k * 5) E.zero.cs).toArray 58 :: HP.mp K.enc K.ok bm (fun k' => if k' = (⟨x, lv, sp', false, lf⟩ : E).key then none else plF (fenK S p k) k') :: L) := by
                    intro w_ hJ
                    rcases hJ with hJ | hJ
                    · exact ⟨run_storeAt_mid w_ b _ 33 #[.int .u64 0, .int .i64 0, .int .u64 0, .bool false, .int .u64 0] (there_blk hJ.f2.heap (by simp [tcs]; omega)) (by kernel_rfl) (by kernel_rfl), (hJ.f2.sets _ _).f2⟩
                    · have h3 := (hJ.f2.sets E.zero.cs (2 + k * 5)).f2
                      rw [setL_idem _ _ _ (by simp [tcs, E.cs]; omega)] at h3
                      exact ⟨run_storeAt_mid w_ b _ 33 #[.int .u64 0, .int .i64 0, .int .u64 0, .bool false, .int .u64 0] (there_blk hJ.f2.heap (by simp [setL_len, tcs]; omega)) (by kernel_rfl) (by kernel_rfl), h3⟩
                  refine wp_region_E (fun w_ => Heap w0 w_ (HP.blk wr.heap.size #[.int .u64 x, .int .i64 lv, .int .u64 sp', .bool false, .int .u64 lf] 33 :: HP.blk b (tcs seed bm (fenK S p k)).toArray 58 :: HP.mp K.enc K.ok bm (fun k' => if k' = (⟨x, lv, sp', false, lf⟩ : E).key then none else plF (fenK S p k) k') :: L) ∨ Heap w0 w_ (HP.blk wr.heap.size #[.int .u64 x, .int .i64 lv, .int .u64 sp', .bool false, .int .u64 lf] 33 :: HP.blk b (setL (tcs seed bm (fenK S p k)) (2 + k * 5) E.zero.cs).toArray 58 :: HP.mp K.enc K.ok bm (fun k' => if k' = (⟨x, lv, sp', false, lf⟩ : E).key then none else plF (fenK S p k) k') :: L)) (fun x_ y_ => (Heap w0 x_ (HP.blk wr.heap.size #[.int .u64 x, .int .i64 lv, .int .u64 sp', .bool false, .int .u64 lf] 33 :: HP.blk b (setL (tcs seed bm (fenK S p k)) (2 + k * 5) E.zero.cs).toArray 58 :: HP.mp K.enc K.ok bm (fun k' => if k' = (⟨x, lv, sp', false, lf⟩ : E).key then none else plF (fenK S p k) k') :: L) → Heap w0 y_ (HP.blk wr.heap.size #[.int .u64 x, .int .i64 lv, .int .u64 sp', .bool false, .int .u64 lf] 33 :: HP.blk b (setL (tcs seed bm (fenK S p k)) (2 + k * 5) E.zero.cs).toArray 58 :: HP.mp K.enc K.ok bm (fun k' => if k' = (⟨x, lv, sp', false, lf⟩ : E).key then none else plF (fenK S p k) k') :: L))) (fun k_ v_ w_ => match k_ with
                      | 0 => v_ = .pointer (some ⟨b, 0, none⟩)
                      | 1 => v_ = .int .i64 (k : Nat)
                      | 2 => v_ = .pointer (some ⟨b, 0, none⟩)
                      | 3 => v_ = .int .i64 (k : Nat)
                      | 4 => v_ = .agg #[.int .u64 0, .int .i64 0, .int .u64 0, .bool false, .int .u64 0]
                      | 5 => v_ = .pointer (some ⟨b, 0, none⟩)
                      | 6 => v_ = .pointer (some ⟨b, 2, none⟩)
                      | 7 => v_ = .pointer (some ⟨b, 2 + k * 5, none⟩)
                      | 8 => Heap w0 w_ (HP.blk wr.heap.size #[.int .u64 x, .int .i64 lv, .int .u64 sp', .bool false, .int .u64 lf] 33 :: HP.blk b (setL (tcs seed bm (fenK S p k)) (2 + k * 5) E.zero.cs).toArray 58 :: HP.mp K.enc K.ok bm (fun k' => if k' = (⟨x, lv, sp', false, lf⟩ : E).key then none else plF (fenK S p k) k') :: L)
                      | 9 => v_ = .pointer (some ⟨b, 0, none⟩)
                      | 10 => v_ = .pointer (some ⟨b, 42, none⟩)
                      | _ => v_ = .pointer (some ⟨b, 42 + k, none⟩)) fol (by kernel_rfl) ?_ ?_ (n := 12) rfl rfl rfl (by kernel_rfl) ?_ ?_
                  · exact .inl hJ6.drew
                  · intro k_ v_ w_ w2_ h1 hg
                    split at h1 <;> first | exact h1 | exact hg h1
                  · intro vals
                    show wpG _ _ _ _ _ _ 0 (_ :: _) _
                    refine wpG_cons (gval (.pointer (some ⟨b, 0, none⟩)) (fun _ h => h) fun w_ hJ hd => ?_) ?_
                    · exact ⟨by kernel_rfl, by kernel_rfl, rfl⟩
                    refine wpG_cons (gval (.int .i64 (k : Nat)) (fun _ h => h) fun w_ hJ hd => ?_) ?_
                    · exact ⟨by kernel_rfl, by kernel_rfl, rfl⟩
                    refine wpG_cons (gval (.pointer (some ⟨b, 0, none⟩)) (fun _ h => h) fun w_ hJ hd => ?_) ?_
                    · exact ⟨by kernel_rfl, by kernel_rfl, rfl⟩
                    refine wpG_cons (gval (.int .i64 (k : Nat)) (fun _ h => h) fun w_ hJ hd => ?_) ?_
                    · exact ⟨by kernel_rfl, by kernel_rfl, rfl⟩
                    refine wpG_cons (gval (.agg #[.int .u64 0, .int .i64 0, .int .u64 0, .bool false, .int .u64 0]) (fun _ h => h) fun w_ hJ hd => ?_) ?_
                    · exact ⟨by kernel_rfl, by kernel_rfl, rfl⟩
                    refine wpG_cons (gval (.pointer (some ⟨b, 0, none⟩)) (fun _ h => h) fun w_ hJ hd => ?_) ?_
                    · have e0 : vals 0 = _ := hd 0 (by decide) (by kernel_rfl)
                      rw [e0]
                      exact ⟨by kernel_rfl, by kernel_rfl, rfl⟩
                    refine wpG_cons (gval (.pointer (some ⟨b, 2, none⟩)) (fun _ h => h) fun w_ hJ hd => ?_) ?_
                    · have e5 : vals 5 = _ := hd 5 (by decide) (by kernel_rfl)
                      rw [e5]
                      exact ⟨by kernel_rfl, by kernel_rfl, rfl⟩
                    refine wpG_cons (gop (Instr.indexAt 55 (.pointer (some ⟨b, 2, none⟩)) (.int .i64 (k : Nat))) (.pointer (some ⟨b, 2 + k * 5, none⟩)) (fun _ h => h) fun w_ hJ hd => ?_) ?_
                    · have e6 : vals 6 = _ := hd 6 (by decide) (by kernel_rfl)
                      have e1 : vals 1 = _ := hd 1 (by decide) (by kernel_rfl)
                      rw [e6, e1]
                      exact ⟨by kernel_rfl, by kernel_rfl, run_ixa b 2 _ hlt8 w_, rfl⟩
                    refine wpG_cons (gunit fun w_ hJ hd => ?_) ?_
                    · have e7 : vals 7 = _ := hd 7 (by decide) (by kernel_rfl)
                      have e4 : vals 4 = _ := hd 4 (by decide) (by kernel_rfl)
                      rw [e7, e4]
                      have hS := hst w_ hJ
                      exact ⟨by kernel_rfl, _, Eq.trans (b := Sem.run Try.prog (do Instr.storeAt 33 (.pointer (some ⟨b, 2 + k * 5, none⟩)) (.agg #[.int .u64 0, .int .i64 0, .int .u64 0, .bool false, .int .u64 0]); pure Next.skip : Sem Next) w_) (by kernel_rfl) (run_unit (hS.1)), .inr hS.2, fun _ => hS.2, hS.2⟩
                    refine wpG_cons (gval (.pointer (some ⟨b, 0, none⟩)) (fun _ h => h) fun w_ hJ hd => ?_) ?_
                    · have e2 : vals 2 = _ := hd 2 (by decide) (by kernel_rfl)
                      rw [e2]
                      exact ⟨by kernel_rfl, by kernel_rfl, rfl⟩
                    refine wpG_cons (gval (.pointer (some ⟨b, 42, none⟩)) (fun _ h => h) fun w_ hJ hd => ?_) ?_
                    · have e9 : vals 9 = _ := hd 9 (by decide) (by kernel_rfl)
                      rw [e9]
                      exact ⟨by kernel_rfl, by kernel_rfl, rfl⟩
                    refine wpG_cons (gop (Instr.indexAt 56 (.pointer (some ⟨b, 42, none⟩)) (.int .i64 (k : Nat))) (.pointer (some ⟨b, 42 + k, none⟩)) (fun _ h => h) fun w_ hJ hd => ?_) wpG_nil
                    · have e10 : vals 10 = _ := hd 10 (by decide) (by kernel_rfl)
                      have e3 : vals 3 = _ := hd 3 (by decide) (by kernel_rfl)
                      rw [e10, e3]
                      exact ⟨by kernel_rfl, by kernel_rfl, run_ixb b 42 _ hlt8 w_, rfl⟩
                  · intro vals w_ hJ hf
                    have e0 : vals 0 = _ := hf 0 (by decide)
                    have e1 : vals 1 = _ := hf 1 (by decide)
                    have e2 : vals 2 = _ := hf 2 (by decide)
                    have e3 : vals 3 = _ := hf 3 (by decide)
                    have e4 : vals 4 = _ := hf 4 (by decide)
                    have e5 : vals 5 = _ := hf 5 (by decide)
                    have e6 : vals 6 = _ := hf 6 (by decide)
                    have e7 : vals 7 = _ := hf 7 (by decide)
                    have e9 : vals 9 = _ := hf 9 (by decide)
                    have e10 : vals 10 = _ := hf 10 (by decide)
                    have e11 : vals 11 = _ := hf 11 (by decide)
                    have e8 : Heap w0 w_ (HP.blk wr.heap.size #[.int .u64 x, .int .i64 lv, .int .u64 sp', .bool false, .int .u64 lf] 33 :: HP.blk b (setL (tcs seed bm (fenK S p k)) (2 + k * 5) E.zero.cs).toArray 58 :: HP.mp K.enc K.ok bm (fun k' => if k' = (⟨x, lv, sp', false, lf⟩ : E).key then none else plF (fenK S p k) k') :: L) := hf 8 (by decide)
                    show Oper.wp _ _ (fillG vals 0 (_ :: _ :: _ :: _ :: _ :: _ :: _ :: _ :: _ :: _ :: _ :: _ :: []) _) _ _ _
                    simp only [fillG, Nat.zero_add, Nat.reduceAdd, e0, e1, e2, e3, e4, e5, e6, e7, e9, e10, e11, Act.put, List.setIfInBounds_toArray, List.set_cons_succ, List.set_cons_zero]
                    clear e0 e1 e2 e3 e4 e5 e6 e7 e9 e10 e11 hf
                    generalize vals 8 = v8 at *
                    have hfc := there_blk (n := 1) (o := 42 + k) e8.f2.heap (by simp [setL_len, tcs]; omega)
                    obtain ⟨hc1, hc2⟩ := hfc 0 (by omega)
                    obtain ⟨u, hu⟩ := Option.isSome_iff_exists.1 hc1
                    refine wp_last_skip (w' := w_.setCell ⟨b, 42 + k, none⟩ (.bool false)) (m := Instr.storeAt 4 (.pointer (some ⟨b, 42 + k, none⟩)) (.bool false)) (by kernel_rfl) (run_store1 (by kernel_rfl) rfl rfl hu hc2) ?_
                    first | show Exit.then _ _ Exit.normal (Act.put ⟨_, _⟩ none _) _ | show Exit.inBlock _ _ Exit.normal (Act.put ⟨_, _⟩ none _) _
                    simp only [Act.put]
                    clear hst
                    have hfin := e8.f2.setl (42 + k) (.bool false)
                    have hput := tcs_put seed bm (fenK S p k) k hlt8 none
                    simp only [Option.getD_none, Option.isSome_none] at hput
                    rw [hput] at hfin
                    clear e8 hput hu hc1 hc2
                    go_wp2
                    go_roundw
                    case rel =>
                      refine ⟨k + 1, by go_num, by omega, ?_⟩
                      rw [fenK_go (unhide hSk) (unhide hgo), plF_put_none (unhide HI) hlt8 (unhide hSf)]
                      exact hfin.f2.tail
                    case measure => simp [intOf]; omega
              · have hne : (sp' == sp) = false := beq_eq_false_iff_ne.2 hsp
                have hgo : Hid (fen1 p (S k) = S k) := hide (by rw [unhide hSk]; simp [fen1, goes, *])
                go_wp2
                go_roundw
                case rel =>
                  refine ⟨k + 1, by go_num, by omega, ?_⟩
                  rw [fenK_stay (unhide hgo)]
                  exact J4.tail
                case measure => simp [intOf]; omega
        | true =>
          go_wp2_with fail
          refine (unhide HH _).mono ?_
          rintro r w4 ⟨rfl, hg4⟩
          have J4 := J4.grown hg4
          have hc5 := cells5 J4.heap
          have hbl := lt_of_heap' J4.f2.heap
          clear HH hfull hix hg4
          cases hh : hasB (⟨x, lv, sp', gl, lf⟩ : E) a with
          | false =>
            have hgo : Hid (fen1 p (S k) = S k) := hide (by rw [unhide hSk]; simp [fen1, goes, *])
            go_wp2
            go_roundw
            case rel =>
              refine ⟨k + 1, by go_num, by omega, ?_⟩
              rw [fenK_stay (unhide hgo)]
              exact J4.tail
            case measure => simp [intOf]; omega
          | true =>
            cases bS with
            | false =>
              have hgo : Hid (fen1 p (S k) = none) := hide (by rw [unhide hSk]; simp [fen1, goes, *])
              go_wp2
              refine wp_region_E (fun w_ => Heap w0 w_ (HP.blk wr.heap.size #[.int .u64 x, .int .i64 lv, .int .u64 sp', .bool gl, .int .u64 lf] 33 :: HP.blk b (tcs seed bm (fenK S p k)).toArray 58 :: HP.mp K.enc K.ok bm (plF (fenK S p k)) :: L)) GN (fun k_ v_ w_ => match k_ with
                  | 0 => v_ = .pointer (some ⟨b, 0, none⟩)
                  | 1 => v_ = .pointer (some ⟨b, 0, none⟩)
                  | 2 => v_ = .pointer (some ⟨b, 1, none⟩)
                  | 3 => v_ = .map (some bm)
                  | 4 => v_ = .agg #[.int .u64 x, .int .i64 lv, .int .u64 sp', .bool gl, .int .u64 lf]
                  | _ => v_ = (⟨x, lv, sp', gl, lf⟩ : E).key.enc) fol (by kernel_rfl) ?_ ?_ (n := 6) rfl rfl rfl (by kernel_rfl) ?_ ?_
              · exact J4.drew
              · intro k_ v_ w_ w2_ h1 hg
                split at h1 <;> exact h1
              · intro vals
                show wpG _ _ _ _ _ _ 0 (_ :: _) _
                refine wpG_cons (gval (.pointer (some ⟨b, 0, none⟩)) GN.refl fun w_ hJ hd => ?_) ?_
                · exact ⟨by kernel_rfl, by kernel_rfl, rfl⟩
                refine wpG_cons (gval (.pointer (some ⟨b, 0, none⟩)) GN.refl fun w_ hJ hd => ?_) ?_
                · have e0 : vals 0 = _ := hd 0 (by decide) (by kernel_rfl)
                  rw [e0]
                  exact ⟨by kernel_rfl, by kernel_rfl, rfl⟩
                refine wpG_cons (gval (.pointer (some ⟨b, 1, none⟩)) GN.refl fun w_ hJ hd => ?_) ?_
                · have e1 : vals 1 = _ := hd 1 (by decide) (by kernel_rfl)
                  rw [e1]
                  exact ⟨by kernel_rfl, by kernel_rfl, rfl⟩
                refine wpG_cons (gop (Instr.loadAt 54 (.pointer (some ⟨b, 1, none⟩))) (.map (some bm)) GN.refl fun w_ hJ hd => ?_) ?_
                · have e2 : vals 2 = _ := hd 2 (by decide) (by kernel_rfl)
                  rw [e2]
                  exact ⟨by kernel_rfl, by kernel_rfl, run_load1 (by kernel_rfl) (tcs_map hJ.f2.heap), rfl⟩
                refine wpG_cons (gop (Instr.loadAt 33 (.pointer (some ⟨wr.heap.size, 0, none⟩))) (.agg #[.int .u64 x, .int .i64 lv, .int .u64 sp', .bool gl, .int .u64 lf]) GN.refl fun w_ hJ hd => ?_) ?_
                · exact ⟨by kernel_rfl, by kernel_rfl, load_box hJ.heap, rfl⟩
                refine wpG_cons (gcall 24 #[.agg #[.int .u64 x, .int .i64 lv, .int .u64 sp', .bool gl, .int .u64 lf]] fun w_ hJ hd => ?_) wpG_nil
                · have e4 : vals 4 = _ := hd 4 (by decide) (by kernel_rfl)
                  rw [e4]
                  exact ⟨by kernel_rfl, by kernel_rfl, (key_any (⟨x, lv, sp', gl, lf⟩ : E) w_).mono fun _ w' ⟨hr, hg⟩ => ⟨_, hr, hJ.grown hg, hg, rfl⟩⟩
              · intro vals w_ hJ hf
                have e0 : vals 0 = _ := hf 0 (by decide)
                have e1 : vals 1 = _ := hf 1 (by decide)
                have e2 : vals 2 = _ := hf 2 (by decide)
                have e3 : vals 3 = _ := hf 3 (by decide)
                have e4 : vals 4 = _ := hf 4 (by decide)
                have e5 : vals 5 = _ := hf 5 (by decide)
                show Oper.wp _ _ (fillG vals 0 (_ :: _ :: _ :: _ :: _ :: _ :: []) _) _ _ _
                simp only [fillG, Nat.zero_add, Nat.reduceAdd, e0, e1, e2, e3, e4, e5, Act.put, List.setIfInBounds_toArray, List.set_cons_succ, List.set_cons_zero]
                clear e0 e1 e2 e3 e4 e5 hf
                obtain ⟨w6, hr6, hJ6, _⟩ := hJ.f3.mpDel keyLaw (E.key_ok hok) #[54, 64] rfl 0
                have hJ6 := hJ6.b3
                refine wp_last_value (w' := w6) (v := .tuple #[]) (Eq.trans (b := Sem.run Try.prog (do let r ← Builtin.delete_ #[54, 64] 0 #[.map (some bm), (⟨x, lv, sp', gl, lf⟩ : E).key.enc]; pure (Next.value r)) w_) (by kernel_rfl) (run_val hr6)) ?_
                show Exit.then _ _ Exit.normal (Act.put ⟨_, _⟩ none _) _
                simp only [Act.put]
                clear hr6 hJ J4
                go_wp2
                have hst : ∀ w_, (Heap w0 w_ (HP.blk wr.heap.size #[.int .u64 x, .int .i64 lv, .int .u64 sp', .bool gl, .int .u64 lf] 33 :: HP.blk b (tcs seed bm (fenK S p k)).toArray 58 :: HP.mp K.enc K.ok bm (fun k' => if k' = (⟨x, lv, sp', gl, lf⟩ : E).key then none else plF (fenK S p k) k') :: L) ∨ Heap w0 w_ (HP.blk wr.heap.size #[.int .u64 x, .int .i64 lv, .int .u64 sp', .bool gl, .int .u64 lf] 33 :: HP.blk b (setL (tcs seed bm (fenK S p k)) (2 + k * 5) E.zero.cs).toArray 58 :: HP.mp K.enc K.ok bm (fun k' => if k' = (⟨x, lv, sp', gl, lf⟩ : E).key then none else plF (fenK S p k) k') :: L)) → (Instr.storeAt 33 (.pointer (some ⟨b, 2 + k * 5, none⟩)) (.agg #[.int .u64 0, .int .i64 0, .int .u64 0, .bool false, .int .u64 0])).run Try.prog w_ = .ok () (w_.setCells b (2 + k * 5) E.zero.cs) ∧ Heap w0 (w_.setCells b (2 + k * 5) E.zero.cs) (HP.blk wr.heap.size #[.int .u64 x, .int .i64 lv, .int .u64 sp', .bool gl, .int .u64 lf] 33 :: HP.blk b (setL (tcs seed bm (fenK S p k)) (2 + k * 5) E.zero.cs).toArray 58 :: HP.mp K.enc K.ok bm (fun k' => if k' = (⟨x, lv, sp', gl, lf⟩ : E).key then none else plF (fenK S p k) k') :: L) := by
                  intro w_ hJ
                  rcases hJ with hJ | hJ
                  · exact ⟨run_storeAt_mid w_ b _ 33 #[.int .u64 0, .int .i64 0, .int .u64 0, .bool false, .int .u64 0] (there_blk hJ.f2.heap (by simp [tcs]; omega)) (by kernel_rfl) (by kernel_rfl), (hJ.f2.sets _ _).f2⟩
                  · have h3 := (hJ.f2.sets E.zero.cs (2 + k * 5)).f2
                    rw [setL_idem _ _ _ (by simp [tcs, E.cs]; omega)] at h3
                    exact ⟨run_storeAt_mid w_ b _ 33 #[.int .u64 0, .int .i64 0, .int .u64 0, .bool false, .int .u64 0] (there_blk hJ.f2.heap (by simp [setL_len, tcs]; omega)) (by kernel_rfl) (by kernel_rfl), h3⟩
                refine wp_region_E (fun w_ => Heap w0 w_ (HP.blk wr.heap.size #[.int .u64 x, .int .i64 lv, .int .u64 sp', .bool gl, .int .u64 lf] 33 :: HP.blk b (tcs seed bm (fenK S p k)).toArray 58 :: HP.mp K.enc K.ok bm (fun k' => if k' = (⟨x, lv, sp', gl, lf⟩ : E).key then none else plF (fenK S p k) k') :: L) ∨ Heap w0 w_ (HP.blk wr.heap.size #[.int .u64 x, .int .i64 lv, .int .u64 sp', .bool gl, .int .u64 lf] 33 :: HP.blk b (setL (tcs seed bm (fenK S p k)) (2 + k * 5) E.zero.cs).toArray 58 :: HP.mp K.enc K.ok bm (fun k' => if k' = (⟨x, lv, sp', gl, lf⟩ : E).key then none else plF (fenK S p k) k') :: L)) (fun x_ y_ => (Heap w0 x_ (HP.blk wr.heap.size #[.int .u64 x, .int .i64 lv, .int .u64 sp', .bool gl, .int .u64 lf] 33 :: HP.blk b (setL (tcs seed bm (fenK S p k)) (2 + k * 5) E.zero.cs).toArray 58 :: HP.mp K.enc K.ok bm (fun k' => if k' = (⟨x, lv, sp', gl, lf⟩ : E).key then none else plF (fenK S p k) k') :: L) → Heap w0 y_ (HP.blk wr.heap.size #[.int .u64 x, .int .i64 lv, .int .u64 sp', .bool gl, .int .u64 lf] 33 :: HP.blk b (setL (tcs seed bm (fenK S p k)) (2 + k * 5) E.zero.cs).toArray 58 :: HP.mp K.enc K.ok bm (fun k' => if k' = (⟨x, lv, sp', gl, lf⟩ : E).key then none else plF (fenK S p k) k') :: L))) (fun k_ v_ w_ => match k_ with
                    | 0 => v_ = .pointer (some ⟨b, 0, none⟩)
                    | 1 => v_ = .int .i64 (k : Nat)
                    | 2 => v_ = .pointer (some ⟨b, 0, none⟩)
                    | 3 => v_ = .int .i64 (k : Nat)
                    | 4 => v_ = .agg #[.int .u64 0, .int .i64 0, .int .u64 0, .bool false, .int .u64 0]
                    | 5 => v_ = .pointer (some ⟨b, 0, none⟩)
                    | 6 => v_ = .pointer (some ⟨b, 2, none⟩)
                    | 7 => v_ = .pointer (some ⟨b, 2 + k * 5, none⟩)
                    | 8 => Heap w0 w_ (HP.blk wr.heap.size #[.int .u64 x, .int .i64 lv, .int .u64 sp', .bool gl, .int .u64 lf] 33 :: HP.blk b (setL (tcs seed bm (fenK S p k)) (2 + k * 5) E.zero.cs).toArray 58 :: HP.mp K.enc K.ok bm (fun k' => if k' = (⟨x, lv, sp', gl, lf⟩ : E).key then none else plF (fenK S p k) k') :: L)
                    | 9 => v_ = .pointer (some ⟨b, 0, none⟩)
                    | 10 => v_ = .pointer (some ⟨b, 42, none⟩)
                    | _ => v_ = .pointer (some ⟨b, 42 + k, none⟩)) fol (by kernel_rfl) ?_ ?_ (n := 12) rfl rfl rfl (by kernel_rfl) ?_ ?_
                · exact .inl hJ6.drew
                · intro k_ v_ w_ w2_ h1 hg
                  split at h1 <;> first | exact h1 | exact hg h1
                · intro vals
                  show wpG _ _ _ _ _ _ 0 (_ :: _) _
                  refine wpG_cons (gval (.pointer (some ⟨b, 0, none⟩)) (fun _ h => h) fun w_ hJ hd => ?_) ?_
                  · exact ⟨by kernel_rfl, by kernel_rfl, rfl⟩
                  refine wpG_cons (gval (.int .i64 (k : Nat)) (fun _ h => h) fun w_ hJ hd => ?_) ?_
                  · exact ⟨by kernel_rfl, by kernel_rfl, rfl⟩
                  refine wpG_cons (gval (.pointer (some ⟨b, 0, none⟩)) (fun _ h => h) fun w_ hJ hd => ?_) ?_
                  · exact ⟨by kernel_rfl, by kernel_rfl, rfl⟩
                  refine wpG_cons (gval (.int .i64 (k : Nat)) (fun _ h => h) fun w_ hJ hd => ?_) ?_
                  · exact ⟨by kernel_rfl, by kernel_rfl, rfl⟩
                  refine wpG_cons (gval (.agg #[.int .u64 0, .int .i64 0, .int .u64 0, .bool false, .int .u64 0]) (fun _ h => h) fun w_ hJ hd => ?_) ?_
                  · exact ⟨by kernel_rfl, by kernel_rfl, rfl⟩
                  refine wpG_cons (gval (.pointer (some ⟨b, 0, none⟩)) (fun _ h => h) fun w_ hJ hd => ?_) ?_
                  · have e0 : vals 0 = _ := hd 0 (by decide) (by kernel_rfl)
                    rw [e0]
                    exact ⟨by kernel_rfl, by kernel_rfl, rfl⟩
                  refine wpG_cons (gval (.pointer (some ⟨b, 2, none⟩)) (fun _ h => h) fun w_ hJ hd => ?_) ?_
                  · have e5 : vals 5 = _ := hd 5 (by decide) (by kernel_rfl)
                    rw [e5]
                    exact ⟨by kernel_rfl, by kernel_rfl, rfl⟩
                  refine wpG_cons (gop (Instr.indexAt 55 (.pointer (some ⟨b, 2, none⟩)) (.int .i64 (k : Nat))) (.pointer (some ⟨b, 2 + k * 5, none⟩)) (fun _ h => h) fun w_ hJ hd => ?_) ?_
                  · have e6 : vals 6 = _ := hd 6 (by decide) (by kernel_rfl)
                    have e1 : vals 1 = _ := hd 1 (by decide) (by kernel_rfl)
                    rw [e6, e1]
                    exact ⟨by kernel_rfl, by kernel_rfl, run_ixa b 2 _ hlt8 w_, rfl⟩
                  refine wpG_cons (gunit fun w_ hJ hd => ?_) ?_
                  · have e7 : vals 7 = _ := hd 7 (by decide) (by kernel_rfl)
                    have e4 : vals 4 = _ := hd 4 (by decide) (by kernel_rfl)
                    rw [e7, e4]
                    have hS := hst w_ hJ
                    exact ⟨by kernel_rfl, _, Eq.trans (b := Sem.run Try.prog (do Instr.storeAt 33 (.pointer (some ⟨b, 2 + k * 5, none⟩)) (.agg #[.int .u64 0, .int .i64 0, .int .u64 0, .bool false, .int .u64 0]); pure Next.skip : Sem Next) w_) (by kernel_rfl) (run_unit (hS.1)), .inr hS.2, fun _ => hS.2, hS.2⟩
                  refine wpG_cons (gval (.pointer (some ⟨b, 0, none⟩)) (fun _ h => h) fun w_ hJ hd => ?_) ?_
                  · have e2 : vals 2 = _ := hd 2 (by decide) (by kernel_rfl)
                    rw [e2]
                    exact ⟨by kernel_rfl, by kernel_rfl, rfl⟩
                  refine wpG_cons (gval (.pointer (some ⟨b, 42, none⟩)) (fun _ h => h) fun w_ hJ hd => ?_) ?_
                  · have e9 : vals 9 = _ := hd 9 (by decide) (by kernel_rfl)
                    rw [e9]
                    exact ⟨by kernel_rfl, by kernel_rfl, rfl⟩
                  refine wpG_cons (gop (Instr.indexAt 56 (.pointer (some ⟨b, 42, none⟩)) (.int .i64 (k : Nat))) (.pointer (some ⟨b, 42 + k, none⟩)) (fun _ h => h) fun w_ hJ hd => ?_) wpG_nil
                  · have e10 : vals 10 = _ := hd 10 (by decide) (by kernel_rfl)
                    have e3 : vals 3 = _ := hd 3 (by decide) (by kernel_rfl)
                    rw [e10, e3]
                    exact ⟨by kernel_rfl, by kernel_rfl, run_ixb b 42 _ hlt8 w_, rfl⟩
                · intro vals w_ hJ hf
                  have e0 : vals 0 = _ := hf 0 (by decide)
                  have e1 : vals 1 = _ := hf 1 (by decide)
                  have e2 : vals 2 = _ := hf 2 (by decide)
                  have e3 : vals 3 = _ := hf 3 (by decide)
                  have e4 : vals 4 = _ := hf 4 (by decide)
                  have e5 : vals 5 = _ := hf 5 (by decide)
                  have e6 : vals 6 = _ := hf 6 (by decide)
                  have e7 : vals 7 = _ := hf 7 (by decide)
                  have e9 : vals 9 = _ := hf 9 (by decide)
                  have e10 : vals 10 = _ := hf 10 (by decide)
                  have e11 : vals 11 = _ := hf 11 (by decide)
                  have e8 : Heap w0 w_ (HP.blk wr.heap.size #[.int .u64 x, .int .i64 lv, .int .u64 sp', .bool gl, .int .u64 lf] 33 :: HP.blk b (setL (tcs seed bm (fenK S p k)) (2 + k * 5) E.zero.cs).toArray 58 :: HP.mp K.enc K.ok bm (fun k' => if k' = (⟨x, lv, sp', gl, lf⟩ : E).key then none else plF (fenK S p k) k') :: L) := hf 8 (by decide)
                  show Oper.wp _ _ (fillG vals 0 (_ :: _ :: _ :: _ :: _ :: _ :: _ :: _ :: _ :: _ :: _ :: _ :: []) _) _ _ _
                  simp only [fillG, Nat.zero_add, Nat.reduceAdd, e0, e1, e2, e3, e4, e5, e6, e7, e9, e10, e11, Act.put, List.setIfInBounds_toArray, List.set_cons_succ, List.set_cons_zero]
                  clear e0 e1 e2 e3 e4 e5 e6 e7 e9 e10 e11 hf
                  generalize vals 8 = v8 at *
                  have hfc := there_blk (n := 1) (o := 42 + k) e8.f2.heap (by simp [setL_len, tcs]; omega)
                  obtain ⟨hc1, hc2⟩ := hfc 0 (by omega)
                  obtain ⟨u, hu⟩ := Option.isSome_iff_exists.1 hc1
                  refine wp_last_skip (w' := w_.setCell ⟨b, 42 + k, none⟩ (.bool false)) (m := Instr.storeAt 4 (.pointer (some ⟨b, 42 + k, none⟩)) (.bool false)) (by kernel_rfl) (run_store1 (by kernel_rfl) rfl rfl hu hc2) ?_
                  first | show Exit.then _ _ Exit.normal (Act.put ⟨_, _⟩ none _) _ | show Exit.inBlock _ _ Exit.normal (Act.put ⟨_, _⟩ none _) _
                  simp only [Act.put]
                  clear hst
                  have hfin := e8.f2.setl (42 + k) (.bool false)
                  have hput := tcs_put seed bm (fenK S p k) k hlt8 none
                  simp only [Option.getD_none, Option.isSome_none] at hput
                  rw [hput] at hfin
                  clear e8 hput hu hc1 hc2
                  go_wp2
                  go_roundw
                  case rel =>
                    refine ⟨k + 1, by go_num, by omega, ?_⟩
                    rw [fenK_go (unhide hSk) (unhide hgo), plF_put_none (unhide HI) hlt8 (unhide hSf)]
                    exact hfin.f2.tail
                  case measure => simp [intOf]; omega
            | true =>
              cases gl with
              | true =>
                have hgo : Hid (fen1 p (S k) = S k) := hide (by rw [unhide hSk]; simp [fen1, goes, *])
                go_wp2
                go_roundw
                case rel =>
                  refine ⟨k + 1, by go_num, by omega, ?_⟩
                  rw [fenK_stay (unhide hgo)]
                  exact J4.tail
                case measure => simp [intOf]; omega
              | false =>
                by_cases hsp : sp' = sp
                · subst hsp
                  have hgo : Hid (fen1 p (S k) = none) := hide (by rw [unhide hSk]; simp [fen1, goes, *])
                  go_wp2
                  refine wp_region_E (fun w_ => Heap w0 w_ (HP.blk wr.heap.size #[.int .u64 x, .int .i64 lv, .int .u64 sp', .bool false, .int .u64 lf] 33 :: HP.blk b (tcs seed bm (fenK S p k)).toArray 58 :: HP.mp K.enc K.ok bm (plF (fenK S p k)) :: L)) GN (fun k_ v_ w_ => match k_ with
                      | 0 => v_ = .pointer (some ⟨b, 0, none⟩)
                      | 1 => v_ = .pointer (some ⟨b, 0, none⟩)
                      | 2 => v_ = .pointer (some ⟨b, 1, none⟩)
                      | 3 => v_ = .map (some bm)
                      | 4 => v_ = .agg #[.int .u64 x, .int .i64 lv, .int .u64 sp', .bool false, .int .u64 lf]
                      | _ => v_ = (⟨x, lv, sp', false, lf⟩ : E).key.enc) fol (by kernel_rfl) ?_ ?_ (n := 6) rfl rfl rfl (by kernel_rfl) ?_ ?_
                  · exact J4.drew
                  · intro k_ v_ w_ w2_ h1 hg
                    split at h1 <;> exact h1
                  · intro vals
                    show wpG _ _ _ _ _ _ 0 (_ :: _) _
                    refine wpG_cons (gval (.pointer (some ⟨b, 0, none⟩)) GN.refl fun w_ hJ hd => ?_) ?_
                    · exact ⟨by kernel_rfl, by kernel_rfl, rfl⟩
                    refine wpG_cons (gval (.pointer (some ⟨b, 0, none⟩)) GN.refl fun w_ hJ hd => ?_) ?_
                    · have e0 : vals 0 = _ := hd 0 (by decide) (by kernel_rfl)
                      rw [e0]
                      exact ⟨by kernel_rfl, by kernel_rfl, rfl⟩
                    refine wpG_cons (gval (.pointer (some ⟨b, 1, none⟩)) GN.refl fun w_ hJ hd => ?_) ?_
                    · have e1 : vals 1 = _ := hd 1 (by decide) (by kernel_rfl)
                      rw [e1]
                      exact ⟨by kernel_rfl, by kernel_rfl, rfl⟩
                    refine wpG_cons (gop (Instr.loadAt 54 (.pointer (some ⟨b, 1, none⟩))) (.map (some bm)) GN.refl fun w_ hJ hd => ?_) ?_
                    · have e2 : vals 2 = _ := hd 2 (by decide) (by kernel_rfl)
                      rw [e2]
                      exact ⟨by kernel_rfl, by kernel_rfl, run_load1 (by kernel_rfl) (tcs_map hJ.f2.heap), rfl⟩
                    refine wpG_cons (gop (Instr.loadAt 33 (.pointer (some ⟨wr.heap.size, 0, none⟩))) (.agg #[.int .u64 x, .int .i64 lv, .int .u64 sp', .bool false, .int .u64 lf]) GN.refl fun w_ hJ hd => ?_) ?_
                    · exact ⟨by kernel_rfl, by kernel_rfl, load_box hJ.heap, rfl⟩
                    refine wpG_cons (gcall 24 #[.agg #[.int .u64 x, .int .i64 lv, .int .u64 sp', .bool false, .int .u64 lf]] fun w_ hJ hd => ?_) wpG_nil
                    · have e4 : vals 4 = _ := hd 4 (by decide) (by kernel_rfl)
                      rw [e4]
                      exact ⟨by kernel_rfl, by kernel_rfl, (key_any (⟨x, lv, sp', false, lf⟩ : E) w_).mono fun _ w' ⟨hr, hg⟩ => ⟨_, hr, hJ.grown hg, hg, rfl⟩⟩
                  · intro vals w_ hJ hf
                    have e0 : vals 0 = _ := hf 0 (by decide)
                    have e1 : vals 1 = _ := hf 1 (by decide)
                    have e2 : vals 2 = _ := hf 2 (by decide)
                    have e3 : vals 3 = _ := hf 3 (by decide)
                    have e4 : vals 4 = _ := hf 4 (by decide)
                    have e5 : vals 5 = _ := hf 5 (by decide)
                    show Oper.wp _ _ (fillG vals 0 (_ :: _ :: _ :: _ :: _ :: _ :: []) _) _ _ _
                    simp only [fillG, Nat.zero_add, Nat.reduceAdd, e0, e1, e2, e3, e4, e5, Act.put, List.setIfInBounds_toArray, List.set_cons_succ, List.set_cons_zero]
                    clear e0 e1 e2 e3 e4 e5 hf
                    obtain ⟨w6, hr6, hJ6, _⟩ := hJ.f3.mpDel keyLaw (E.key_ok hok) #[54, 64] rfl 0
                    have hJ6 := hJ6.b3
                    refine wp_last_value (w' := w6) (v := .tuple #[]) (Eq.trans (b := Sem.run Try.prog (do let r ← Builtin.delete_ #[54, 64] 0 #[.map (some bm), (⟨x, lv, sp', false, lf⟩ : E).key.enc]; pure (Next.value r)) w_) (by kernel_rfl) (run_val hr6)) ?_
                    show Exit.then _ _ Exit.normal (Act.put ⟨_, _⟩ none _) _
                    simp only [Act.put]
                    clear hr6 hJ J4
                    go_wp2
                    have hst : ∀ w_, (Heap w0 w_ (HP.blk wr.heap.size #[.int .u64 x, .int .i64 lv, .int .u64 sp', .bool false, .int .u64 lf] 33 :: HP.blk b (tcs seed bm (fenK S p k)).toArray 58 :: HP.mp K.enc K.ok bm (fun k' => if k' = (⟨x, lv, sp', false, lf⟩ : E).key then none else plF (fenK S p k) k') :: L) ∨ Heap w0 w_ (HP.blk wr.heap.size #[.int .u64 x, .int .i64 lv, .int .u64 sp', .bool false, .int .u64 lf] 33 :: HP.blk b (setL (tcs seed bm (fenK S p k)) (2 + k * 5) E.zero.cs).toArray 58 :: HP.mp K.enc K.ok bm (fun k' => if k' = (⟨x, lv, sp', false, lf⟩ : E).key then none else plF (fenK S p k) k') :: L)) → (Instr.storeAt 33 (.pointer (some ⟨b, 2 + k * 5, none⟩)) (.agg #[.int .u64 0, .int .i64 0, .int .u64 0, .bool false, .int .u64 0])).run Try.prog w_ = .ok () (w_.setCells b (2 + k * 5) E.zero.cs) ∧ Heap w0 (w_.setCells b (2 + k * 5) E.zero.cs) (HP.blk wr.heap.size #[.int .u64 x, .int .i64 lv, .int .u64 sp', .bool false, .int .u64 lf] 33 :: HP.blk b (setL (tcs seed bm (fenK S p k)) (2 + k * 5) E.zero.cs).toArray 58 :: HP.mp K.enc K.ok bm (fun k' => if k' = (⟨x, lv, sp', false, lf⟩ : E).key then none else plF (fenK S p k) k') :: L) := by
                      intro w_ hJ
                      rcases hJ with hJ | hJ
                      · exact ⟨run_storeAt_mid w_ b _ 33 #[.int .u64 0, .int .i64 0, .int .u64 0, .bool false, .int .u64 0] (there_blk hJ.f2.heap (by simp [tcs]; omega)) (by kernel_rfl) (by kernel_rfl), (hJ.f2.sets _ _).f2⟩
                      · have h3 := (hJ.f2.sets E.zero.cs (2 + k * 5)).f2
                        rw [setL_idem _ _ _ (by simp [tcs, E.cs]; omega)] at h3
                        exact ⟨run_storeAt_mid w_ b _ 33 #[.int .u64 0, .int .i64 0, .int .u64 0, .bool false, .int .u64 0] (there_blk hJ.f2.heap (by simp [setL_len, tcs]; omega)) (by kernel_rfl) (by kernel_rfl), h3⟩
                    refine wp_region_E (fun w_ => Heap w0 w_ (HP.blk wr.heap.size #[.int .u64 x, .int .i64 lv, .int .u64 sp', .bool false, .int .u64 lf] 33 :: HP.blk b (tcs seed bm (fenK S p k)).toArray 58 :: HP.mp K.enc K.ok bm (fun k' => if k' = (⟨x, lv, sp', false, lf⟩ : E).key then none else plF (fenK S p k) k') :: L) ∨ Heap w0 w_ (HP.blk wr.heap.size #[.int .u64 x, .int .i64 lv, .int .u64 sp', .bool false, .int .u64 lf] 33 :: HP.blk b (setL (tcs seed bm (fenK S p k)) (2 + k * 5) E.zero.cs).toArray 58 :: HP.mp K.enc K.ok bm (fun k' => if k' = (⟨x, lv, sp', false, lf⟩ : E).key then none else plF (fenK S p k) k') :: L)) (fun x_ y_ => (Heap w0 x_ (HP.blk wr.heap.size #[.int .u64 x, .int .i64 lv, .int .u64 sp', .bool false, .int .u64 lf] 33 :: HP.blk b (setL (tcs seed bm (fenK S p k)) (2 + k * 5) E.zero.cs).toArray 58 :: HP.mp K.enc K.ok bm (fun k' => if k' = (⟨x, lv, sp', false, lf⟩ : E).key then none else plF (fenK S p k) k') :: L) → Heap w0 y_ (HP.blk wr.heap.size #[.int .u64 x, .int .i64 lv, .int .u64 sp', .bool false, .int .u64 lf] 33 :: HP.blk b (setL (tcs seed bm (fenK S p k)) (2 + k * 5) E.zero.cs).toArray 58 :: HP.mp K.enc K.ok bm (fun k' => if k' = (⟨x, lv, sp', false, lf⟩ : E).key then none else plF (fenK S p k) k') :: L))) (fun k_ v_ w_ => match k_ with
                        | 0 => v_ = .pointer (some ⟨b, 0, none⟩)
                        | 1 => v_ = .int .i64 (k : Nat)
                        | 2 => v_ = .pointer (some ⟨b, 0, none⟩)
                        | 3 => v_ = .int .i64 (k : Nat)
                        | 4 => v_ = .agg #[.int .u64 0, .int .i64 0, .int .u64 0, .bool false, .int .u64 0]
                        | 5 => v_ = .pointer (some ⟨b, 0, none⟩)
                        | 6 => v_ = .pointer (some ⟨b, 2, none⟩)
                        | 7 => v_ = .pointer (some ⟨b, 2 + k * 5, none⟩)
                        | 8 => Heap w0 w_ (HP.blk wr.heap.size #[.int .u64 x, .int .i64 lv, .int .u64 sp', .bool false, .int .u64 lf] 33 :: HP.blk b (setL (tcs seed bm (fenK S p k)) (2 + k * 5) E.zero.cs).toArray 58 :: HP.mp K.enc K.ok bm (fun k' => if k' = (⟨x, lv, sp', false, lf⟩ : E).key then none else plF (fenK S p k) k') :: L)
                        | 9 => v_ = .pointer (some ⟨b, 0, none⟩)
                        | 10 => v_ = .pointer (some ⟨b, 42, none⟩)
                        | _ => v_ = .pointer (some ⟨b, 42 + k, none⟩)) fol (by kernel_rfl) ?_ ?_ (n := 12) rfl rfl rfl (by kernel_rfl) ?_ ?_
                    · exact .inl hJ6.drew
                    · intro k_ v_ w_ w2_ h1 hg
                      split at h1 <;> first | exact h1 | exact hg h1
                    · intro vals
                      show wpG _ _ _ _ _ _ 0 (_ :: _) _
                      refine wpG_cons (gval (.pointer (some ⟨b, 0, none⟩)) (fun _ h => h) fun w_ hJ hd => ?_) ?_
                      · exact ⟨by kernel_rfl, by kernel_rfl, rfl⟩
                      refine wpG_cons (gval (.int .i64 (k : Nat)) (fun _ h => h) fun w_ hJ hd => ?_) ?_
                      · exact ⟨by kernel_rfl, by kernel_rfl, rfl⟩
                      refine wpG_cons (gval (.pointer (some ⟨b, 0, none⟩)) (fun _ h => h) fun w_ hJ hd => ?_) ?_
                      · exact ⟨by kernel_rfl, by kernel_rfl, rfl⟩
                      refine wpG_cons (gval (.int .i64 (k : Nat)) (fun _ h => h) fun w_ hJ hd => ?_) ?_
                      · exact ⟨by kernel_rfl, by kernel_rfl, rfl⟩
                      refine wpG_cons (gval (.agg #[.int .u64 0, .int .i64 0, .int .u64 0, .bool false, .int .u64 0]) (fun _ h => h) fun w_ hJ hd => ?_) ?_
                      · exact ⟨by kernel_rfl, by kernel_rfl, rfl⟩
                      refine wpG_cons (gval (.pointer (some ⟨b, 0, none⟩)) (fun _ h => h) fun w_ hJ hd => ?_) ?_
                      · have e0 : vals 0 = _ := hd 0 (by decide) (by kernel_rfl)
                        rw [e0]
                        exact ⟨by kernel_rfl, by kernel_rfl, rfl⟩
                      refine wpG_cons (gval (.pointer (some ⟨b, 2, none⟩)) (fun _ h => h) fun w_ hJ hd => ?_) ?_
                      · have e5 : vals 5 = _ := hd 5 (by decide) (by kernel_rfl)
                        rw [e5]
                        exact ⟨by kernel_rfl, by kernel_rfl, rfl⟩
                      refine wpG_cons (gop (Instr.indexAt 55 (.pointer (some ⟨b, 2, none⟩)) (.int .i64 (k : Nat))) (.pointer (some ⟨b, 2 + k * 5, none⟩)) (fun _ h => h) fun w_ hJ hd => ?_) ?_
                      · have e6 : vals 6 = _ := hd 6 (by decide) (by kernel_rfl)
                        have e1 : vals 1 = _ := hd 1 (by decide) (by kernel_rfl)
                        rw [e6, e1]
                        exact ⟨by kernel_rfl, by kernel_rfl, run_ixa b 2 _ hlt8 w_, rfl⟩
                      refine wpG_cons (gunit fun w_ hJ hd => ?_) ?_
                      · have e7 : vals 7 = _ := hd 7 (by decide) (by kernel_rfl)
                        have e4 : vals 4 = _ := hd 4 (by decide) (by kernel_rfl)
                        rw [e7, e4]
                        have hS := hst w_ hJ
                        exact ⟨by kernel_rfl, _, Eq.trans (b := Sem.run Try.prog (do Instr.storeAt 33 (.pointer (some ⟨b, 2 + k * 5, none⟩)) (.agg #[.int .u64 0, .int .i64 0, .int .u64 0, .bool false, .int .u64 0]); pure Next.skip : Sem Next) w_) (by kernel_rfl) (run_unit (hS.1)), .inr hS.2, fun _ => hS.2, hS.2⟩
                      refine wpG_cons (gval (.pointer (some ⟨b, 0, none⟩)) (fun _ h => h) fun w_ hJ hd => ?_) ?_
                      · have e2 : vals 2 = _ := hd 2 (by decide) (by kernel_rfl)
                        rw [e2]
                        exact ⟨by kernel_rfl, by kernel_rfl, rfl⟩
                      refine wpG_cons (gval (.pointer (some ⟨b, 42, none⟩)) (fun _ h => h) fun w_ hJ hd => ?_) ?_
                      · have e9 : vals 9 = _ := hd 9 (by decide) (by kernel_rfl)
                        rw [e9]
                        exact ⟨by kernel_rfl, by kernel_rfl, rfl⟩
                      refine wpG_cons (gop (Instr.indexAt 56 (.pointer (some ⟨b, 42, none⟩)) (.int .i64 (k : Nat))) (.pointer (some ⟨b, 42 + k, none⟩)) (fun _ h => h) fun w_ hJ hd => ?_) wpG_nil
                      · have e10 : vals 10 = _ := hd 10 (by decide) (by kernel_rfl)
                        have e3 : vals 3 = _ := hd 3 (by decide) (by kernel_rfl)
                        rw [e10, e3]
                        exact ⟨by kernel_rfl, by kernel_rfl, run_ixb b 42 _ hlt8 w_, rfl⟩
                    · intro vals w_ hJ hf
                      have e0 : vals 0 = _ := hf 0 (by decide)
                      have e1 : vals 1 = _ := hf 1 (by decide)
                      have e2 : vals 2 = _ := hf 2 (by decide)
                      have e3 : vals 3 = _ := hf 3 (by decide)
                      have e4 : vals 4 = _ := hf 4 (by decide)
                      have e5 : vals 5 = _ := hf 5 (by decide)
                      have e6 : vals 6 = _ := hf 6 (by decide)
                      have e7 : vals 7 = _ := hf 7 (by decide)
                      have e9 : vals 9 = _ := hf 9 (by decide)
                      have e10 : vals 10 = _ := hf 10 (by decide)
                      have e11 : vals 11 = _ := hf 11 (by decide)
                      have e8 : Heap w0 w_ (HP.blk wr.heap.size #[.int .u64 x, .int .i64 lv, .int .u64 sp', .bool false, .int .u64 lf] 33 :: HP.blk b (setL (tcs seed bm (fenK S p k)) (2 + k * 5) E.zero.cs).toArray 58 :: HP.mp K.enc K.ok bm (fun k' => if k' = (⟨x, lv, sp', false, lf⟩ : E).key then none else plF (fenK S p k) k') :: L) := hf 8 (by decide)
                      show Oper.wp _ _ (fillG vals 0 (_ :: _ :: _ :: _ :: _ :: _ :: _ :: _ :: _ :: _ :: _ :: _ :: []) _) _ _ _
                      simp only [fillG, Nat.zero_add, Nat.reduceAdd, e0, e1, e2, e3, e4, e5, e6, e7, e9, e10, e11, Act.put, List.setIfInBounds_toArray, List.set_cons_succ, List.set_cons_zero]
                      clear e0 e1 e2 e3 e4 e5 e6 e7 e9 e10 e11 hf
                      generalize vals 8 = v8 at *
                      have hfc := there_blk (n := 1) (o := 42 + k) e8.f2.heap (by simp [setL_len, tcs]; omega)
                      obtain ⟨hc1, hc2⟩ := hfc 0 (by omega)
                      obtain ⟨u, hu⟩ := Option.isSome_iff_exists.1 hc1
                      refine wp_last_skip (w' := w_.setCell ⟨b, 42 + k, none⟩ (.bool false)) (m := Instr.storeAt 4 (.pointer (some ⟨b, 42 + k, none⟩)) (.bool false)) (by kernel_rfl) (run_store1 (by kernel_rfl) rfl rfl hu hc2) ?_
                      first | show Exit.then _ _ Exit.normal (Act.put ⟨_, _⟩ none _) _ | show Exit.inBlock _ _ Exit.normal (Act.put ⟨_, _⟩ none _) _
                      simp only [Act.put]
                      clear hst
                      have hfin := e8.f2.setl (42 + k) (.bool false)
                      have hput := tcs_put seed bm (fenK S p k) k hlt8 none
                      simp only [Option.getD_none, Option.isSome_none] at hput
                      rw [hput] at hfin
                      clear e8 hput hu hc1 hc2
                      go_wp2
                      go_roundw
                      case rel =>
                        refine ⟨k + 1, by go_num, by omega, ?_⟩
                        rw [fenK_go (unhide hSk) (unhide hgo), plF_put_none (unhide HI) hlt8 (unhide hSf)]
                        exact hfin.f2.tail
                      case measure => simp [intOf]; omega
                · have hne : (sp' == sp) = false := beq_eq_false_iff_ne.2 hsp
                  have hgo : Hid (fen1 p (S k) = S k) := hide (by rw [unhide hSk]; simp [fen1, goes, *])
                  go_wp2
                  go_roundw
                  case rel =>
                    refine ⟨k + 1, by go_num, by omega, ?_⟩
                    rw [fenK_stay (unhide hgo)]
                    exact J4.tail
                  case measure => simp [intOf]; omega
    · obtain rfl : k = 8 := by omega
      go_wp2
      exact bodyPost_end (v := .tuple #[]) (by simp [results, Try.results16, go_sem]) rfl ⟨rfl, hJ⟩
end
end Go.Proofs.Ytlkkmpfhhfaioaa
