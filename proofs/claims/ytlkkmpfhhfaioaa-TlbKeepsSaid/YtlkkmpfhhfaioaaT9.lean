/- Layer 15: Put: what is kept. -/
import Derived.Test.YtlkkmpfhhfaioaaT8
namespace Go.Proofs.Ytlkkmpfhhfaioaa
open Go.RowKit

theorem run_ixb (b o n : Nat) (h : n < 8) (w : World) : (Instr.indexAt 56 (.pointer (some ⟨b, o, none⟩)) (.int .i64 (n : Int))).run Try.prog w = .ok (.pointer (some ⟨b, o + n, none⟩)) w := by
  have h8 : n = 0 ∨ n = 1 ∨ n = 2 ∨ n = 3 ∨ n = 4 ∨ n = 5 ∨ n = 6 ∨ n = 7 := by omega
  rcases h8 with rfl | rfl | rfl | rfl | rfl | rfl | rfl | rfl <;> (show _ = _; kernel_rfl)
theorem load_box {w : World} {g : Nat} {a c d f : Int} {gl : Bool} (h : w.heap[g]? = some (.cells #[.int .u64 a, .int .i64 c, .int .u64 d, .bool gl, .int .u64 f] 33 (0, 0))) :
    (Instr.loadAt 33 (.pointer (some ⟨g, 0, none⟩))).run Try.prog w = .ok (.agg #[.int .u64 a, .int .i64 c, .int .u64 d, .bool gl, .int .u64 f]) w :=
  run_loadAt_mid w g 0 33 [.int .u64 a, .int .i64 c, .int .u64 d, .bool gl, .int .u64 f] _ (range_blk (xs := [.int .u64 a, .int .i64 c, .int .u64 d, .bool gl, .int .u64 f]) h 0 5 _ rfl) Try.underlying33 rfl (by kernel_rfl)
def putS (S : Slots) (seed : Int) (e : E) : Slots := if bad e then S else put S ((place S e.key).getD (slot S seed)) (some e)
def putSeed (S : Slots) (seed : Int) (e : E) : Int := if bad e then seed else match place S e.key with | some _ => seed | none => slotSeed S seed
section
variable {w0 w : World} {L : List HP} {seed : Int} {b bm : Nat} {S : Slots} {e : E}
set_option maxRecDepth 100000 in
set_option maxHeartbeats 2000000 in
theorem put_ok (h : Heap w0 w (HP.blk b (tcs seed bm S).toArray 58 :: HP.mp K.enc K.ok bm (plF S) :: L)) (hI : Inv S) (hsd : 0 ≤ seed ∧ seed < 18446744073709551616) (hw : e.wf) (hb : bad e = false) :
    Calls Try.prog 11 #[.pointer (some ⟨b, 0, none⟩), .agg #[.int .u64 e.at_, .int .i64 e.lv, .int .u64 e.sp, .bool e.gl, .int .u64 e.lf]] w fun r w' => r = .returned (.bool true) ∧ Heap w0 w' (HP.tl b (putSeed S seed e) (putS S seed e) :: L) := by
  obtain ⟨hok, hs, hz⟩ := ok_of e hw hb
  have hps : ∀ {n}, place S e.key = some n → putS S seed e = put S n (some e) := fun h => by unfold putS; rw [hb, h]; rfl
  have hpseed : ∀ {n}, place S e.key = some n → putSeed S seed e = seed := fun h => by unfold putSeed; rw [hb, h]; rfl
  have hps0 : place S e.key = none → putS S seed e = put S (slot S seed) (some e) := fun h => by unfold putS; rw [hb, h]; rfl
  have hpseed0 : place S e.key = none → putSeed S seed e = slotSeed S seed := fun h => by unfold putSeed; rw [hb, h]; rfl
  have hl := lv_cases hok
  obtain ⟨x, lv, sp, gl, lf⟩ := e
  have h0 := hw.a0
  have h1 := hw.a1
  simp only at hl h0 h1 hs hz
  have d3 : decide (65535 < sp) = false := decide_eq_false (by omega)
  rcases hl with rfl | rfl | rfl
  · have e1 := mask12 x h0 h1
    have z : (x % 4096 == 0) = true := beq_iff_eq.2 hz
    go_enter Try.func11, Try.ntmps11
    go_wp2
    go_quiet (fail)
    have J1 := (h.new #[.int .u64 x, .int .i64 0, .int .u64 sp, .bool gl, .int .u64 lf] 33).drewN nq
    have hlk : ∀ w_, Heap w0 w_ (HP.mp K.enc K.ok bm (plF S) :: HP.blk w.heap.size #[.int .u64 x, .int .i64 0, .int .u64 sp, .bool gl, .int .u64 lf] 33 :: HP.blk b (tcs seed bm S).toArray 58 :: L) → (Instr.lookup 54 (.map (some bm)) (⟨x, 0, sp, gl, lf⟩ : E).key.enc true).run Try.prog w_ = .ok (.tuple #[(plF S (⟨x, 0, sp, gl, lf⟩ : E).key).getD (.int .i64 0), .bool (plF S (⟨x, 0, sp, gl, lf⟩ : E).key).isSome]) w_ := fun w_ hJ => hJ.mpLook keyLaw (E.key_ok hok) (by kernel_rfl)
    unfold plF at hlk
    cases hp : place S (⟨x, 0, sp, gl, lf⟩ : E).key with
    | some n =>
      rw [hp] at hlk
      change ∀ w_, Heap w0 w_ (HP.mp K.enc K.ok bm (plF S) :: HP.blk w.heap.size #[.int .u64 x, .int .i64 0, .int .u64 sp, .bool gl, .int .u64 lf] 33 :: HP.blk b (tcs seed bm S).toArray 58 :: L) → (Instr.lookup 54 (.map (some bm)) (⟨x, 0, sp, gl, lf⟩ : E).key.enc true).run Try.prog w_ = .ok (.tuple #[.int .i64 (n : Nat), .bool true]) w_ at hlk
      have hn8 := (place_some hp).1
      go_wp2
      refine wp_region_F (fun w_ => Heap w0 w_ (HP.blk w.heap.size #[.int .u64 x, .int .i64 0, .int .u64 sp, .bool gl, .int .u64 lf] 33 :: HP.blk b (tcs seed bm S).toArray 58 :: HP.mp K.enc K.ok bm (plF S) :: L)) GN (fun k_ v_ w_ => match k_ with
          | 0 => v_ = .pointer (some ⟨b, 0, none⟩)
          | 1 => v_ = .pointer (some ⟨b, 0, none⟩)
          | 2 => v_ = .pointer (some ⟨b, 1, none⟩)
          | 3 => v_ = .map (some bm)
          | 4 => v_ = .agg #[.int .u64 x, .int .i64 0, .int .u64 sp, .bool gl, .int .u64 lf]
          | 5 => v_ = (⟨x, 0, sp, gl, lf⟩ : E).key.enc
          | 6 => v_ = .tuple #[.int .i64 (n : Nat), .bool true]
          | 7 => v_ = .tuple #[.int .i64 (n : Nat), .bool true]
          | 8 => v_ = .int .i64 (n : Nat)
          | 9 => v_ = .bool true
          | 10 => v_ = .int .i64 (n : Nat)
          | _ => v_ = .bool true) fol (by kernel_rfl) ?_ ?_ ?_ ?_
      · exact J1.drew
      · intro k_ v_ w_ w2_ h1 hg
        split at h1 <;> exact h1
      · intro vals
        show wpG _ _ _ _ _ _ 0 (_ :: _) _
        refine wpG_cons (gval (.pointer (some ⟨b, 0, none⟩)) GN.refl fun w_ hJ hd => ?_) ?_
        · exact ⟨by kernel_rfl, by kernel_rfl, rfl⟩
        refine wpG_cons (gval (.pointer (some ⟨b, 0, none⟩)) GN.refl fun w_ hJ hd => ?_) ?_
        · have e0 : vals 0 = _ := hd 0 (by decide) (by kernel_rfl)
          rw [e0]
          exact ⟨by kernel_rfl, by kernel_rfl, rfl⟩
        refine wpG_cons (gval (.pointer (some ⟨b, 1, none⟩)) GN.refl fun w_ hJ hd => ?_) ?_
        · have e1 : vals 1 = _ := hd 1 (by decide) (by kernel_rfl)
          rw [e1]
          exact ⟨by kernel_rfl, by kernel_rfl, rfl⟩
        refine wpG_cons (gop (Instr.loadAt 54 (.pointer (some ⟨b, 1, none⟩))) (.map (some bm)) GN.refl fun w_ hJ hd => ?_) ?_
        · have e2 : vals 2 = _ := hd 2 (by decide) (by kernel_rfl)
          rw [e2]
          exact ⟨by kernel_rfl, by kernel_rfl, run_load1 (by kernel_rfl) (tcs_map hJ.f2.heap), rfl⟩
        refine wpG_cons (gop (Instr.loadAt 33 (.pointer (some ⟨w.heap.size, 0, none⟩))) (.agg #[.int .u64 x, .int .i64 0, .int .u64 sp, .bool gl, .int .u64 lf]) GN.refl fun w_ hJ hd => ?_) ?_
        · exact ⟨by kernel_rfl, by kernel_rfl, load_box hJ.heap, rfl⟩
        refine wpG_cons (gcall 24 #[.agg #[.int .u64 x, .int .i64 0, .int .u64 sp, .bool gl, .int .u64 lf]] fun w_ hJ hd => ?_) ?_
        · have e4 : vals 4 = _ := hd 4 (by decide) (by kernel_rfl)
          rw [e4]
          exact ⟨by kernel_rfl, by kernel_rfl, (key_any (⟨x, 0, sp, gl, lf⟩ : E) w_).mono fun _ w' ⟨hr, hg⟩ => ⟨_, hr, hJ.grown hg, hg, rfl⟩⟩
        refine wpG_cons (gop (Instr.lookup 54 (.map (some bm)) (⟨x, 0, sp, gl, lf⟩ : E).key.enc true) (.tuple #[.int .i64 (n : Nat), .bool true]) GN.refl fun w_ hJ hd => ?_) ?_
        · have e3 : vals 3 = _ := hd 3 (by decide) (by kernel_rfl)
          have e5 : vals 5 = _ := hd 5 (by decide) (by kernel_rfl)
          rw [e3, e5]
          exact ⟨by kernel_rfl, by kernel_rfl, hlk w_ hJ.f3, rfl⟩
        refine wpG_cons (gval (.tuple #[.int .i64 (n : Nat), .bool true]) GN.refl fun w_ hJ hd => ?_) ?_
        · have e6 : vals 6 = _ := hd 6 (by decide) (by kernel_rfl)
          rw [e6]
          exact ⟨by kernel_rfl, by kernel_rfl, rfl⟩
        refine wpG_cons (gval (.int .i64 (n : Nat)) GN.refl fun w_ hJ hd => ?_) ?_
        · have e7 : vals 7 = _ := hd 7 (by decide) (by kernel_rfl)
          rw [e7]
          exact ⟨by kernel_rfl, by kernel_rfl, rfl⟩
        refine wpG_cons (gval (.bool true) GN.refl fun w_ hJ hd => ?_) ?_
        · have e7 : vals 7 = _ := hd 7 (by decide) (by kernel_rfl)
          rw [e7]
          exact ⟨by kernel_rfl, by kernel_rfl, rfl⟩
        refine wpG_cons (gval (.int .i64 (n : Nat)) GN.refl fun w_ hJ hd => ?_) ?_
        · have e8 : vals 8 = _ := hd 8 (by decide) (by kernel_rfl)
          rw [e8]
          exact ⟨by kernel_rfl, by kernel_rfl, rfl⟩
        refine wpG_cons (gval (.bool true) GN.refl fun w_ hJ hd => ?_) wpG_nil
        · have e9 : vals 9 = _ := hd 9 (by decide) (by kernel_rfl)
          rw [e9]
          exact ⟨by kernel_rfl, by kernel_rfl, rfl⟩
      · intro vals w_ hJ hf
        have e0 : vals 0 = _ := hf 0 (by decide)
        have e1 : vals 1 = _ := hf 1 (by decide)
        have e2 : vals 2 = _ := hf 2 (by decide)
        have e3 : vals 3 = _ := hf 3 (by decide)
        have e4 : vals 4 = _ := hf 4 (by decide)
        have e5 : vals 5 = _ := hf 5 (by decide)
        have e6 : vals 6 = _ := hf 6 (by decide)
        have e7 : vals 7 = _ := hf 7 (by decide)
        have e8 : vals 8 = _ := hf 8 (by decide)
        have e9 : vals 9 = _ := hf 9 (by decide)
        have e10 : vals 10 = _ := hf 10 (by decide)
        have e11 : vals 11 = _ := hf 11 (by decide)
        simp only [fillG, Nat.zero_add, Nat.reduceAdd, e0, e1, e2, e3, e4, e5, e6, e7, e8, e9, e10, e11, Act.put, List.setIfInBounds_toArray, List.set_cons_succ, List.set_cons_zero]
        clear e0 e1 e2 e3 e4 e5 e6 e7 e8 e9 e10 e11 hf
        clear hlk J1
        go_wp2
        have hst : ∀ w_, (Heap w0 w_ (HP.blk w.heap.size #[.int .u64 x, .int .i64 0, .int .u64 sp, .bool gl, .int .u64 lf] 33 :: HP.blk b (tcs seed bm S).toArray 58 :: HP.mp K.enc K.ok bm (plF S) :: L) ∨ Heap w0 w_ (HP.blk w.heap.size #[.int .u64 x, .int .i64 0, .int .u64 sp, .bool gl, .int .u64 lf] 33 :: HP.blk b (setL (tcs seed bm S) (2 + n * 5) (⟨x, 0, sp, gl, lf⟩ : E).cs).toArray 58 :: HP.mp K.enc K.ok bm (plF S) :: L)) → (Instr.storeAt 33 (.pointer (some ⟨b, 2 + n * 5, none⟩)) (.agg #[.int .u64 x, .int .i64 0, .int .u64 sp, .bool gl, .int .u64 lf])).run Try.prog w_ = .ok () (w_.setCells b (2 + n * 5) (⟨x, 0, sp, gl, lf⟩ : E).cs) ∧ Heap w0 (w_.setCells b (2 + n * 5) (⟨x, 0, sp, gl, lf⟩ : E).cs) (HP.blk w.heap.size #[.int .u64 x, .int .i64 0, .int .u64 sp, .bool gl, .int .u64 lf] 33 :: HP.blk b (setL (tcs seed bm S) (2 + n * 5) (⟨x, 0, sp, gl, lf⟩ : E).cs).toArray 58 :: HP.mp K.enc K.ok bm (plF S) :: L) := by
          intro w_ hJ
          rcases hJ with hJ | hJ
          · exact ⟨run_storeAt_mid w_ b _ 33 #[.int .u64 x, .int .i64 0, .int .u64 sp, .bool gl, .int .u64 lf] (there_blk hJ.f2.heap (by simp [tcs]; omega)) (by kernel_rfl) (by kernel_rfl), (hJ.f2.sets _ _).f2⟩
          · have h3 := (hJ.f2.sets (⟨x, 0, sp, gl, lf⟩ : E).cs (2 + n * 5)).f2
            rw [setL_idem _ _ _ (by simp [tcs, E.cs]; omega)] at h3
            exact ⟨run_storeAt_mid w_ b _ 33 #[.int .u64 x, .int .i64 0, .int .u64 sp, .bool gl, .int .u64 lf] (there_blk hJ.f2.heap (by simp [setL_len, tcs]; omega)) (by kernel_rfl) (by kernel_rfl), h3⟩
        refine wp_region_E (fun w_ => Heap w0 w_ (HP.blk w.heap.size #[.int .u64 x, .int .i64 0, .int .u64 sp, .bool gl, .int .u64 lf] 33 :: HP.blk b (tcs seed bm S).toArray 58 :: HP.mp K.enc K.ok bm (plF S) :: L) ∨ Heap w0 w_ (HP.blk w.heap.size #[.int .u64 x, .int .i64 0, .int .u64 sp, .bool gl, .int .u64 lf] 33 :: HP.blk b (setL (tcs seed bm S) (2 + n * 5) (⟨x, 0, sp, gl, lf⟩ : E).cs).toArray 58 :: HP.mp K.enc K.ok bm (plF S) :: L)) (fun x_ y_ => (Heap w0 x_ (HP.blk w.heap.size #[.int .u64 x, .int .i64 0, .int .u64 sp, .bool gl, .int .u64 lf] 33 :: HP.blk b (setL (tcs seed bm S) (2 + n * 5) (⟨x, 0, sp, gl, lf⟩ : E).cs).toArray 58 :: HP.mp K.enc K.ok bm (plF S) :: L) → Heap w0 y_ (HP.blk w.heap.size #[.int .u64 x, .int .i64 0, .int .u64 sp, .bool gl, .int .u64 lf] 33 :: HP.blk b (setL (tcs seed bm S) (2 + n * 5) (⟨x, 0, sp, gl, lf⟩ : E).cs).toArray 58 :: HP.mp K.enc K.ok bm (plF S) :: L))) (fun k_ v_ w_ => match k_ with
            | 0 => v_ = .pointer (some ⟨b, 0, none⟩)
            | 1 => v_ = .int .i64 (n : Nat)
            | 2 => v_ = .pointer (some ⟨b, 0, none⟩)
            | 3 => v_ = .int .i64 (n : Nat)
            | 4 => v_ = .agg #[.int .u64 x, .int .i64 0, .int .u64 sp, .bool gl, .int .u64 lf]
            | 5 => v_ = .pointer (some ⟨b, 0, none⟩)
            | 6 => v_ = .pointer (some ⟨b, 2, none⟩)
            | 7 => v_ = .pointer (some ⟨b, 2 + n * 5, none⟩)
            | 8 => Heap w0 w_ (HP.blk w.heap.size #[.int .u64 x, .int .i64 0, .int .u64 sp, .bool gl, .int .u64 lf] 33 :: HP.blk b (setL (tcs seed bm S) (2 + n * 5) (⟨x, 0, sp, gl, lf⟩ : E).cs).toArray 58 :: HP.mp K.enc K.ok bm (plF S) :: L)
            | 9 => v_ = .pointer (some ⟨b, 0, none⟩)
            | 10 => v_ = .pointer (some ⟨b, 42, none⟩)
            | _ => v_ = .pointer (some ⟨b, 42 + n, none⟩)) fol (by kernel_rfl) ?_ ?_ (n := 12) rfl rfl rfl (by kernel_rfl) ?_ ?_
        · exact .inl hJ.drew
        · intro k_ v_ w_ w2_ h1 hg
          split at h1 <;> first | exact h1 | exact hg h1
        · intro vals
          show wpG _ _ _ _ _ _ 0 (_ :: _) _
          refine wpG_cons (gval (.pointer (some ⟨b, 0, none⟩)) (fun _ h => h) fun w_ hJ hd => ?_) ?_
          · exact ⟨by kernel_rfl, by kernel_rfl, rfl⟩
          refine wpG_cons (gval (.int .i64 (n : Nat)) (fun _ h => h) fun w_ hJ hd => ?_) ?_
          · exact ⟨by kernel_rfl, by kernel_rfl, rfl⟩
          refine wpG_cons (gval (.pointer (some ⟨b, 0, none⟩)) (fun _ h => h) fun w_ hJ hd => ?_) ?_
          · exact ⟨by kernel_rfl, by kernel_rfl, rfl⟩
          refine wpG_cons (gval (.int .i64 (n : Nat)) (fun _ h => h) fun w_ hJ hd => ?_) ?_
          · exact ⟨by kernel_rfl, by kernel_rfl, rfl⟩
          refine wpG_cons (gop (Instr.loadAt 33 (.pointer (some ⟨w.heap.size, 0, none⟩))) (.agg #[.int .u64 x, .int .i64 0, .int .u64 sp, .bool gl, .int .u64 lf]) (fun _ h => h) fun w_ hJ hd => ?_) ?_
          · exact ⟨by kernel_rfl, by kernel_rfl, load_box (hJ.elim (fun h => h.heap) (fun h => h.heap)), rfl⟩
          refine wpG_cons (gval (.pointer (some ⟨b, 0, none⟩)) (fun _ h => h) fun w_ hJ hd => ?_) ?_
          · have e0 : vals 0 = _ := hd 0 (by decide) (by kernel_rfl)
            rw [e0]
            exact ⟨by kernel_rfl, by kernel_rfl, rfl⟩
          refine wpG_cons (gval (.pointer (some ⟨b, 2, none⟩)) (fun _ h => h) fun w_ hJ hd => ?_) ?_
          · have e5 : vals 5 = _ := hd 5 (by decide) (by kernel_rfl)
            rw [e5]
            exact ⟨by kernel_rfl, by kernel_rfl, rfl⟩
          refine wpG_cons (gop (Instr.indexAt 55 (.pointer (some ⟨b, 2, none⟩)) (.int .i64 (n : Nat))) (.pointer (some ⟨b, 2 + n * 5, none⟩)) (fun _ h => h) fun w_ hJ hd => ?_) ?_
          · have e6 : vals 6 = _ := hd 6 (by decide) (by kernel_rfl)
            have e1 : vals 1 = _ := hd 1 (by decide) (by kernel_rfl)
            rw [e6, e1]
            exact ⟨by kernel_rfl, by kernel_rfl, run_ixa b 2 _ hn8 w_, rfl⟩
          refine wpG_cons (gunit fun w_ hJ hd => ?_) ?_
          · have e7 : vals 7 = _ := hd 7 (by decide) (by kernel_rfl)
            have e4 : vals 4 = _ := hd 4 (by decide) (by kernel_rfl)
            rw [e7, e4]
            have hS := hst w_ hJ
            exact ⟨by kernel_rfl, _, Eq.trans (b := Sem.run Try.prog (do Instr.storeAt 33 (.pointer (some ⟨b, 2 + n * 5, none⟩)) (.agg #[.int .u64 x, .int .i64 0, .int .u64 sp, .bool gl, .int .u64 lf]); pure Next.skip : Sem Next) w_) (by kernel_rfl) (run_unit (hS.1)), .inr hS.2, fun _ => hS.2, hS.2⟩
          refine wpG_cons (gval (.pointer (some ⟨b, 0, none⟩)) (fun _ h => h) fun w_ hJ hd => ?_) ?_
          · have e2 : vals 2 = _ := hd 2 (by decide) (by kernel_rfl)
            rw [e2]
            exact ⟨by kernel_rfl, by kernel_rfl, rfl⟩
          refine wpG_cons (gval (.pointer (some ⟨b, 42, none⟩)) (fun _ h => h) fun w_ hJ hd => ?_) ?_
          · have e9 : vals 9 = _ := hd 9 (by decide) (by kernel_rfl)
            rw [e9]
            exact ⟨by kernel_rfl, by kernel_rfl, rfl⟩
          refine wpG_cons (gop (Instr.indexAt 56 (.pointer (some ⟨b, 42, none⟩)) (.int .i64 (n : Nat))) (.pointer (some ⟨b, 42 + n, none⟩)) (fun _ h => h) fun w_ hJ hd => ?_) wpG_nil
          · have e10 : vals 10 = _ := hd 10 (by decide) (by kernel_rfl)
            have e3 : vals 3 = _ := hd 3 (by decide) (by kernel_rfl)
            rw [e10, e3]
            exact ⟨by kernel_rfl, by kernel_rfl, run_ixb b 42 _ hn8 w_, rfl⟩
        · intro vals w_ hJ hf
          have e0 : vals 0 = _ := hf 0 (by decide)
          have e1 : vals 1 = _ := hf 1 (by decide)
          have e2 : vals 2 = _ := hf 2 (by decide)
          have e3 : vals 3 = _ := hf 3 (by decide)
          have e4 : vals 4 = _ := hf 4 (by decide)
          have e5 : vals 5 = _ := hf 5 (by decide)
          have e6 : vals 6 = _ := hf 6 (by decide)
          have e7 : vals 7 = _ := hf 7 (by decide)
          have e9 : vals 9 = _ := hf 9 (by decide)
          have e10 : vals 10 = _ := hf 10 (by decide)
          have e11 : vals 11 = _ := hf 11 (by decide)
          have e8 : Heap w0 w_ (HP.blk w.heap.size #[.int .u64 x, .int .i64 0, .int .u64 sp, .bool gl, .int .u64 lf] 33 :: HP.blk b (setL (tcs seed bm S) (2 + n * 5) (⟨x, 0, sp, gl, lf⟩ : E).cs).toArray 58 :: HP.mp K.enc K.ok bm (plF S) :: L) := hf 8 (by decide)
          show Oper.wp _ _ (fillG vals 0 (_ :: _ :: _ :: _ :: _ :: _ :: _ :: _ :: _ :: _ :: _ :: _ :: []) _) _ _ _
          simp only [fillG, Nat.zero_add, Nat.reduceAdd, e0, e1, e2, e3, e4, e5, e6, e7, e9, e10, e11, Act.put, List.setIfInBounds_toArray, List.set_cons_succ, List.set_cons_zero]
          clear e0 e1 e2 e3 e4 e5 e6 e7 e9 e10 e11 hf
          generalize vals 8 = v8 at *
          have hfc := there_blk (n := 1) (o := 42 + n) e8.f2.heap (by simp [setL_len, tcs]; omega)
          obtain ⟨hc1, hc2⟩ := hfc 0 (by omega)
          obtain ⟨u, hu⟩ := Option.isSome_iff_exists.1 hc1
          refine wp_last_skip (w' := w_.setCell ⟨b, 42 + n, none⟩ (.bool true)) (m := Instr.storeAt 4 (.pointer (some ⟨b, 42 + n, none⟩)) (.bool true)) (by kernel_rfl) (run_store1 (by kernel_rfl) rfl rfl hu hc2) ?_
          show Exit.then _ _ Exit.normal (Act.put ⟨_, _⟩ none _) _
          simp only [Act.put]
          clear hst
          have hfin := e8.f2.setl (42 + n) (.bool true)
          have hput := tcs_put seed bm S n hn8 (some (⟨x, 0, sp, gl, lf⟩ : E))
          simp only [Option.getD_some, Option.isSome_some] at hput
          rw [hput] at hfin
          clear e8 hput hu hc1 hc2
          go_wp2
          go_ret
          refine ⟨rfl, Heap.tl.2 ⟨bm, ⟨?_, ?_⟩, ?_⟩⟩
          · rw [hps hp]; exact (place_put_same hI hok hp (⟨x, 0, sp, gl, lf⟩ : E).key).1
          · rw [hpseed hp]; exact hsd
          · rw [hps hp, hpseed hp, plF_put_same hI hok hp]
            exact hfin.f2.tail
    | none =>
      rw [hp] at hlk
      change ∀ w_, Heap w0 w_ (HP.mp K.enc K.ok bm (plF S) :: HP.blk w.heap.size #[.int .u64 x, .int .i64 0, .int .u64 sp, .bool gl, .int .u64 lf] 33 :: HP.blk b (tcs seed bm S).toArray 58 :: L) → (Instr.lookup 54 (.map (some bm)) (⟨x, 0, sp, gl, lf⟩ : E).key.enc true).run Try.prog w_ = .ok (.tuple #[.int .i64 0, .bool false]) w_ at hlk
      have hn8 := slot_lt S seed
      go_wp2
      refine wp_region_F (fun w_ => Heap w0 w_ (HP.blk w.heap.size #[.int .u64 x, .int .i64 0, .int .u64 sp, .bool gl, .int .u64 lf] 33 :: HP.blk b (tcs seed bm S).toArray 58 :: HP.mp K.enc K.ok bm (plF S) :: L)) GN (fun k_ v_ w_ => match k_ with
          | 0 => v_ = .pointer (some ⟨b, 0, none⟩)
          | 1 => v_ = .pointer (some ⟨b, 0, none⟩)
          | 2 => v_ = .pointer (some ⟨b, 1, none⟩)
          | 3 => v_ = .map (some bm)
          | 4 => v_ = .agg #[.int .u64 x, .int .i64 0, .int .u64 sp, .bool gl, .int .u64 lf]
          | 5 => v_ = (⟨x, 0, sp, gl, lf⟩ : E).key.enc
          | 6 => v_ = .tuple #[.int .i64 0, .bool false]
          | 7 => v_ = .tuple #[.int .i64 0, .bool false]
          | 8 => v_ = .int .i64 0
          | 9 => v_ = .bool false
          | 10 => v_ = .int .i64 0
          | _ => v_ = .bool false) fol (by kernel_rfl) ?_ ?_ ?_ ?_
      · exact J1.drew
      · intro k_ v_ w_ w2_ h1 hg
        split at h1 <;> exact h1
      · intro vals
        show wpG _ _ _ _ _ _ 0 (_ :: _) _
        refine wpG_cons (gval (.pointer (some ⟨b, 0, none⟩)) GN.refl fun w_ hJ hd => ?_) ?_
        · exact ⟨by kernel_rfl, by kernel_rfl, rfl⟩
        refine wpG_cons (gval (.pointer (some ⟨b, 0, none⟩)) GN.refl fun w_ hJ hd => ?_) ?_
        · have e0 : vals 0 = _ := hd 0 (by decide) (by kernel_rfl)
          rw [e0]
          exact ⟨by kernel_rfl, by kernel_rfl, rfl⟩
        refine wpG_cons (gval (.pointer (some ⟨b, 1, none⟩)) GN.refl fun w_ hJ hd => ?_) ?_
        · have e1 : vals 1 = _ := hd 1 (by decide) (by kernel_rfl)
          rw [e1]
          exact ⟨by kernel_rfl, by kernel_rfl, rfl⟩
        refine wpG_cons (gop (Instr.loadAt 54 (.pointer (some ⟨b, 1, none⟩))) (.map (some bm)) GN.refl fun w_ hJ hd => ?_) ?_
        · have e2 : vals 2 = _ := hd 2 (by decide) (by kernel_rfl)
          rw [e2]
          exact ⟨by kernel_rfl, by kernel_rfl, run_load1 (by kernel_rfl) (tcs_map hJ.f2.heap), rfl⟩
        refine wpG_cons (gop (Instr.loadAt 33 (.pointer (some ⟨w.heap.size, 0, none⟩))) (.agg #[.int .u64 x, .int .i64 0, .int .u64 sp, .bool gl, .int .u64 lf]) GN.refl fun w_ hJ hd => ?_) ?_
        · exact ⟨by kernel_rfl, by kernel_rfl, load_box hJ.heap, rfl⟩
        refine wpG_cons (gcall 24 #[.agg #[.int .u64 x, .int .i64 0, .int .u64 sp, .bool gl, .int .u64 lf]] fun w_ hJ hd => ?_) ?_
        · have e4 : vals 4 = _ := hd 4 (by decide) (by kernel_rfl)
          rw [e4]
          exact ⟨by kernel_rfl, by kernel_rfl, (key_any (⟨x, 0, sp, gl, lf⟩ : E) w_).mono fun _ w' ⟨hr, hg⟩ => ⟨_, hr, hJ.grown hg, hg, rfl⟩⟩
        refine wpG_cons (gop (Instr.lookup 54 (.map (some bm)) (⟨x, 0, sp, gl, lf⟩ : E).key.enc true) (.tuple #[.int .i64 0, .bool false]) GN.refl fun w_ hJ hd => ?_) ?_
        · have e3 : vals 3 = _ := hd 3 (by decide) (by kernel_rfl)
          have e5 : vals 5 = _ := hd 5 (by decide) (by kernel_rfl)
          rw [e3, e5]
          exact ⟨by kernel_rfl, by kernel_rfl, hlk w_ hJ.f3, rfl⟩
        refine wpG_cons (gval (.tuple #[.int .i64 0, .bool false]) GN.refl fun w_ hJ hd => ?_) ?_
        · have e6 : vals 6 = _ := hd 6 (by decide) (by kernel_rfl)
          rw [e6]
          exact ⟨by kernel_rfl, by kernel_rfl, rfl⟩
        refine wpG_cons (gval (.int .i64 0) GN.refl fun w_ hJ hd => ?_) ?_
        · have e7 : vals 7 = _ := hd 7 (by decide) (by kernel_rfl)
          rw [e7]
          exact ⟨by kernel_rfl, by kernel_rfl, rfl⟩
        refine wpG_cons (gval (.bool false) GN.refl fun w_ hJ hd => ?_) ?_
        · have e7 : vals 7 = _ := hd 7 (by decide) (by kernel_rfl)
          rw [e7]
          exact ⟨by kernel_rfl, by kernel_rfl, rfl⟩
        refine wpG_cons (gval (.int .i64 0) GN.refl fun w_ hJ hd => ?_) ?_
        · have e8 : vals 8 = _ := hd 8 (by decide) (by kernel_rfl)
          rw [e8]
          exact ⟨by kernel_rfl, by kernel_rfl, rfl⟩
        refine wpG_cons (gval (.bool false) GN.refl fun w_ hJ hd => ?_) wpG_nil
        · have e9 : vals 9 = _ := hd 9 (by decide) (by kernel_rfl)
          rw [e9]
          exact ⟨by kernel_rfl, by kernel_rfl, rfl⟩
      · intro vals w_ hJ hf
        have e0 : vals 0 = _ := hf 0 (by decide)
        have e1 : vals 1 = _ := hf 1 (by decide)
        have e2 : vals 2 = _ := hf 2 (by decide)
        have e3 : vals 3 = _ := hf 3 (by decide)
        have e4 : vals 4 = _ := hf 4 (by decide)
        have e5 : vals 5 = _ := hf 5 (by decide)
        have e6 : vals 6 = _ := hf 6 (by decide)
        have e7 : vals 7 = _ := hf 7 (by decide)
        have e8 : vals 8 = _ := hf 8 (by decide)
        have e9 : vals 9 = _ := hf 9 (by decide)
        have e10 : vals 10 = _ := hf 10 (by decide)
        have e11 : vals 11 = _ := hf 11 (by decide)
        simp only [fillG, Nat.zero_add, Nat.reduceAdd, e0, e1, e2, e3, e4, e5, e6, e7, e8, e9, e10, e11, Act.put, List.setIfInBounds_toArray, List.set_cons_succ, List.set_cons_zero]
        clear e0 e1 e2 e3 e4 e5 e6 e7 e8 e9 e10 e11 hf
        clear hlk J1
        go_wp2_with fail
        refine (free_h (hJ.b3) hI).mono ?_
        rintro r w4 ⟨rfl, hJ3⟩
        have J2 := hJ3.f3
        clear hJ hJ3
        go_wp2
        refine wp_region_E (fun w_ => Heap w0 w_ (HP.blk w.heap.size #[.int .u64 x, .int .i64 0, .int .u64 sp, .bool gl, .int .u64 lf] 33 :: HP.blk b (tcs (slotSeed S seed) bm S).toArray 58 :: HP.mp K.enc K.ok bm (plF (put S (slot S seed) none)) :: L)) GN (fun k_ v_ w_ => match k_ with
            | 0 => v_ = .pointer (some ⟨b, 0, none⟩)
            | 1 => v_ = .pointer (some ⟨b, 0, none⟩)
            | 2 => v_ = .pointer (some ⟨b, 1, none⟩)
            | 3 => v_ = .map (some bm)
            | 4 => v_ = .agg #[.int .u64 x, .int .i64 0, .int .u64 sp, .bool gl, .int .u64 lf]
            | 5 => v_ = (⟨x, 0, sp, gl, lf⟩ : E).key.enc
            | _ => v_ = .int .i64 (slot S seed : Nat)) fol (by kernel_rfl) ?_ ?_ (n := 7) rfl rfl rfl (by kernel_rfl) ?_ ?_
        · exact J2.drew
        · intro k_ v_ w_ w2_ h1 hg
          split at h1 <;> exact h1
        · intro vals
          show wpG _ _ _ _ _ _ 0 (_ :: _) _
          refine wpG_cons (gval (.pointer (some ⟨b, 0, none⟩)) GN.refl fun w_ hJ hd => ?_) ?_
          · exact ⟨by kernel_rfl, by kernel_rfl, rfl⟩
          refine wpG_cons (gval (.pointer (some ⟨b, 0, none⟩)) GN.refl fun w_ hJ hd => ?_) ?_
          · have e0 : vals 0 = _ := hd 0 (by decide) (by kernel_rfl)
            rw [e0]
            exact ⟨by kernel_rfl, by kernel_rfl, rfl⟩
          refine wpG_cons (gval (.pointer (some ⟨b, 1, none⟩)) GN.refl fun w_ hJ hd => ?_) ?_
          · have e1 : vals 1 = _ := hd 1 (by decide) (by kernel_rfl)
            rw [e1]
            exact ⟨by kernel_rfl, by kernel_rfl, rfl⟩
          refine wpG_cons (gop (Instr.loadAt 54 (.pointer (some ⟨b, 1, none⟩))) (.map (some bm)) GN.refl fun w_ hJ hd => ?_) ?_
          · have e2 : vals 2 = _ := hd 2 (by decide) (by kernel_rfl)
            rw [e2]
            exact ⟨by kernel_rfl, by kernel_rfl, run_load1 (by kernel_rfl) (tcs_map hJ.f2.heap), rfl⟩
          refine wpG_cons (gop (Instr.loadAt 33 (.pointer (some ⟨w.heap.size, 0, none⟩))) (.agg #[.int .u64 x, .int .i64 0, .int .u64 sp, .bool gl, .int .u64 lf]) GN.refl fun w_ hJ hd => ?_) ?_
          · exact ⟨by kernel_rfl, by kernel_rfl, load_box hJ.heap, rfl⟩
          refine wpG_cons (gcall 24 #[.agg #[.int .u64 x, .int .i64 0, .int .u64 sp, .bool gl, .int .u64 lf]] fun w_ hJ hd => ?_) ?_
          · have e4 : vals 4 = _ := hd 4 (by decide) (by kernel_rfl)
            rw [e4]
            exact ⟨by kernel_rfl, by kernel_rfl, (key_any (⟨x, 0, sp, gl, lf⟩ : E) w_).mono fun _ w' ⟨hr, hg⟩ => ⟨_, hr, hJ.grown hg, hg, rfl⟩⟩
          refine wpG_cons (gval (.int .i64 (slot S seed : Nat)) GN.refl fun w_ hJ hd => ?_) wpG_nil
          · exact ⟨by kernel_rfl, by kernel_rfl, rfl⟩
        · intro vals w_ hJ hf
          have e0 : vals 0 = _ := hf 0 (by decide)
          have e1 : vals 1 = _ := hf 1 (by decide)
          have e2 : vals 2 = _ := hf 2 (by decide)
          have e3 : vals 3 = _ := hf 3 (by decide)
          have e4 : vals 4 = _ := hf 4 (by decide)
          have e5 : vals 5 = _ := hf 5 (by decide)
          have e6 : vals 6 = _ := hf 6 (by decide)
          show Oper.wp _ _ (fillG vals 0 (_ :: _ :: _ :: _ :: _ :: _ :: _ :: []) _) _ _ _
          simp only [fillG, Nat.zero_add, Nat.reduceAdd, e0, e1, e2, e3, e4, e5, e6, Act.put, List.setIfInBounds_toArray, List.set_cons_succ, List.set_cons_zero]
          clear e0 e1 e2 e3 e4 e5 e6 hf
          obtain ⟨w6, hr6, hJ6, _⟩ := hJ.f3.mpStore keyLaw (E.key_ok hok) (.int .i64 (slot S seed : Nat))
          have hJ6 := hJ6.b3
          refine wp_last_skip (w' := w6) (m := Instr.mapUpdate 54 (.map (some bm)) (⟨x, 0, sp, gl, lf⟩ : E).key.enc (.int .i64 (slot S seed : Nat))) (by kernel_rfl) hr6 ?_
          show Exit.then _ _ Exit.normal (Act.put ⟨_, _⟩ none _) _
          simp only [Act.put]
          clear hr6 hJ J2
          go_wp2
          have hst : ∀ w_, (Heap w0 w_ (HP.blk w.heap.size #[.int .u64 x, .int .i64 0, .int .u64 sp, .bool gl, .int .u64 lf] 33 :: HP.blk b (tcs (slotSeed S seed) bm S).toArray 58 :: HP.mp K.enc K.ok bm (fun k' => if k' = (⟨x, 0, sp, gl, lf⟩ : E).key then some (.int .i64 (slot S seed : Nat)) else plF (put S (slot S seed) none) k') :: L) ∨ Heap w0 w_ (HP.blk w.heap.size #[.int .u64 x, .int .i64 0, .int .u64 sp, .bool gl, .int .u64 lf] 33 :: HP.blk b (setL (tcs (slotSeed S seed) bm S) (2 + (slot S seed) * 5) (⟨x, 0, sp, gl, lf⟩ : E).cs).toArray 58 :: HP.mp K.enc K.ok bm (fun k' => if k' = (⟨x, 0, sp, gl, lf⟩ : E).key then some (.int .i64 (slot S seed : Nat)) else plF (put S (slot S seed) none) k') :: L)) → (Instr.storeAt 33 (.pointer (some ⟨b, 2 + (slot S seed) * 5, none⟩)) (.agg #[.int .u64 x, .int .i64 0, .int .u64 sp, .bool gl, .int .u64 lf])).run Try.prog w_ = .ok () (w_.setCells b (2 + (slot S seed) * 5) (⟨x, 0, sp, gl, lf⟩ : E).cs) ∧ Heap w0 (w_.setCells b (2 + (slot S seed) * 5) (⟨x, 0, sp, gl, lf⟩ : E).cs) (HP.blk w.heap.size #[.int .u64 x, .int .i64 0, .int .u64 sp, .bool gl, .int .u64 lf] 33 :: HP.blk b (setL (tcs (slotSeed S seed) bm S) (2 + (slot S seed) * 5) (⟨x, 0, sp, gl, lf⟩ : E).cs).toArray 58 :: HP.mp K.enc K.ok bm (fun k' => if k' = (⟨x, 0, sp, gl, lf⟩ : E).key then some (.int .i64 (slot S seed : Nat)) else plF (put S (slot S seed) none) k') :: L) := by
            intro w_ hJ
            rcases hJ with hJ | hJ
            · exact ⟨run_storeAt_mid w_ b _ 33 #[.int .u64 x, .int .i64 0, .int .u64 sp, .bool gl, .int .u64 lf] (there_blk hJ.f2.heap (by simp [tcs]; omega)) (by kernel_rfl) (by kernel_rfl), (hJ.f2.sets _ _).f2⟩
            · have h3 := (hJ.f2.sets (⟨x, 0, sp, gl, lf⟩ : E).cs (2 + (slot S seed) * 5)).f2
              rw [setL_idem _ _ _ (by simp [tcs, E.cs]; omega)] at h3
              exact ⟨run_storeAt_mid w_ b _ 33 #[.int .u64 x, .int .i64 0, .int .u64 sp, .bool gl, .int .u64 lf] (there_blk hJ.f2.heap (by simp [setL_len, tcs]; omega)) (by kernel_rfl) (by kernel_rfl), h3⟩
          refine wp_region_E (fun w_ => Heap w0 w_ (HP.blk w.heap.size #[.int .u64 x, .int .i64 0, .int .u64 sp, .bool gl, .int .u64 lf] 33 :: HP.blk b (tcs (slotSeed S seed) bm S).toArray 58 :: HP.mp K.enc K.ok bm (fun k' => if k' = (⟨x, 0, sp, gl, lf⟩ : E).key then some (.int .i64 (slot S seed : Nat)) else plF (put S (slot S seed) none) k') :: L) ∨ Heap w0 w_ (HP.blk w.heap.size #[.int .u64 x, .int .i64 0, .int .u64 sp, .bool gl, .int .u64 lf] 33 :: HP.blk b (setL (tcs (slotSeed S seed) bm S) (2 + (slot S seed) * 5) (⟨x, 0, sp, gl, lf⟩ : E).cs).toArray 58 :: HP.mp K.enc K.ok bm (fun k' => if k' = (⟨x, 0, sp, gl, lf⟩ : E).key then some (.int .i64 (slot S seed : Nat)) else plF (put S (slot S seed) none) k') :: L)) (fun x_ y_ => (Heap w0 x_ (HP.blk w.heap.size #[.int .u64 x, .int .i64 0, .int .u64 sp, .bool gl, .int .u64 lf] 33 :: HP.blk b (setL (tcs (slotSeed S seed) bm S) (2 + (slot S seed) * 5) (⟨x, 0, sp, gl, lf⟩ : E).cs).toArray 58 :: HP.mp K.enc K.ok bm (fun k' => if k' = (⟨x, 0, sp, gl, lf⟩ : E).key then some (.int .i64 (slot S seed : Nat)) else plF (put S (slot S seed) none) k') :: L) → Heap w0 y_ (HP.blk w.heap.size #[.int .u64 x, .int .i64 0, .int .u64 sp, .bool gl, .int .u64 lf] 33 :: HP.blk b (setL (tcs (slotSeed S seed) bm S) (2 + (slot S seed) * 5) (⟨x, 0, sp, gl, lf⟩ : E).cs).toArray 58 :: HP.mp K.enc K.ok bm (fun k' => if k' = (⟨x, 0, sp, gl, lf⟩ : E).key then some (.int .i64 (slot S seed : Nat)) else plF (put S (slot S seed) none) k') :: L))) (fun k_ v_ w_ => match k_ with
              | 0 => v_ = .pointer (some ⟨b, 0, none⟩)
              | 1 => v_ = .int .i64 ((slot S seed) : Nat)
              | 2 => v_ = .pointer (some ⟨b, 0, none⟩)
              | 3 => v_ = .int .i64 ((slot S seed) : Nat)
              | 4 => v_ = .agg #[.int .u64 x, .int .i64 0, .int .u64 sp, .bool gl, .int .u64 lf]
              | 5 => v_ = .pointer (some ⟨b, 0, none⟩)
              | 6 => v_ = .pointer (some ⟨b, 2, none⟩)
              | 7 => v_ = .pointer (some ⟨b, 2 + (slot S seed) * 5, none⟩)
              | 8 => Heap w0 w_ (HP.blk w.heap.size #[.int .u64 x, .int .i64 0, .int .u64 sp, .bool gl, .int .u64 lf] 33 :: HP.blk b (setL (tcs (slotSeed S seed) bm S) (2 + (slot S seed) * 5) (⟨x, 0, sp, gl, lf⟩ : E).cs).toArray 58 :: HP.mp K.enc K.ok bm (fun k' => if k' = (⟨x, 0, sp, gl, lf⟩ : E).key then some (.int .i64 (slot S seed : Nat)) else plF (put S (slot S seed) none) k') :: L)
              | 9 => v_ = .pointer (some ⟨b, 0, none⟩)
              | 10 => v_ = .pointer (some ⟨b, 42, none⟩)
              | _ => v_ = .pointer (some ⟨b, 42 + (slot S seed), none⟩)) fol (by kernel_rfl) ?_ ?_ (n := 12) rfl rfl rfl (by kernel_rfl) ?_ ?_
          · exact .inl hJ6.drew
          · intro k_ v_ w_ w2_ h1 hg
            split at h1 <;> first | exact h1 | exact hg h1
          · intro vals
            show wpG _ _ _ _ _ _ 0 (_ :: _) _
            refine wpG_cons (gval (.pointer (some ⟨b, 0, none⟩)) (fun _ h => h) fun w_ hJ hd => ?_) ?_
            · exact ⟨by kernel_rfl, by kernel_rfl, rfl⟩
            refine wpG_cons (gval (.int .i64 ((slot S seed) : Nat)) (fun _ h => h) fun w_ hJ hd => ?_) ?_
            · exact ⟨by kernel_rfl, by kernel_rfl, rfl⟩
            refine wpG_cons (gval (.pointer (some ⟨b, 0, none⟩)) (fun _ h => h) fun w_ hJ hd => ?_) ?_
            · exact ⟨by kernel_rfl, by kernel_rfl, rfl⟩
            refine wpG_cons (gval (.int .i64 ((slot S seed) : Nat)) (fun _ h => h) fun w_ hJ hd => ?_) ?_
            · exact ⟨by kernel_rfl, by kernel_rfl, rfl⟩
            refine wpG_cons (gop (Instr.loadAt 33 (.pointer (some ⟨w.heap.size, 0, none⟩))) (.agg #[.int .u64 x, .int .i64 0, .int .u64 sp, .bool gl, .int .u64 lf]) (fun _ h => h) fun w_ hJ hd => ?_) ?_
            · exact ⟨by kernel_rfl, by kernel_rfl, load_box (hJ.elim (fun h => h.heap) (fun h => h.heap)), rfl⟩
            refine wpG_cons (gval (.pointer (some ⟨b, 0, none⟩)) (fun _ h => h) fun w_ hJ hd => ?_) ?_
            · have e0 : vals 0 = _ := hd 0 (by decide) (by kernel_rfl)
              rw [e0]
              exact ⟨by kernel_rfl, by kernel_rfl, rfl⟩
            refine wpG_cons (gval (.pointer (some ⟨b, 2, none⟩)) (fun _ h => h) fun w_ hJ hd => ?_) ?_
            · have e5 : vals 5 = _ := hd 5 (by decide) (by kernel_rfl)
              rw [e5]
              exact ⟨by kernel_rfl, by kernel_rfl, rfl⟩
            refine wpG_cons (gop (Instr.indexAt 55 (.pointer (some ⟨b, 2, none⟩)) (.int .i64 ((slot S seed) : Nat))) (.pointer (some ⟨b, 2 + (slot S seed) * 5, none⟩)) (fun _ h => h) fun w_ hJ hd => ?_) ?_
            · have e6 : vals 6 = _ := hd 6 (by decide) (by kernel_rfl)
              have e1 : vals 1 = _ := hd 1 (by decide) (by kernel_rfl)
              rw [e6, e1]
              exact ⟨by kernel_rfl, by kernel_rfl, run_ixa b 2 _ hn8 w_, rfl⟩
            refine wpG_cons (gunit fun w_ hJ hd => ?_) ?_
            · have e7 : vals 7 = _ := hd 7 (by decide) (by kernel_rfl)
              have e4 : vals 4 = _ := hd 4 (by decide) (by kernel_rfl)
              rw [e7, e4]
              have hS := hst w_ hJ
              exact ⟨by kernel_rfl, _, Eq.trans (b := Sem.run Try.prog (do Instr.storeAt 33 (.pointer (some ⟨b, 2 + (slot S seed) * 5, none⟩)) (.agg #[.int .u64 x, .int .i64 0, .int .u64 sp, .bool gl, .int .u64 lf]); pure Next.skip : Sem Next) w_) (by kernel_rfl) (run_unit (hS.1)), .inr hS.2, fun _ => hS.2, hS.2⟩
            refine wpG_cons (gval (.pointer (some ⟨b, 0, none⟩)) (fun _ h => h) fun w_ hJ hd => ?_) ?_
            · have e2 : vals 2 = _ := hd 2 (by decide) (by kernel_rfl)
              rw [e2]
              exact ⟨by kernel_rfl, by kernel_rfl, rfl⟩
            refine wpG_cons (gval (.pointer (some ⟨b, 42, none⟩)) (fun _ h => h) fun w_ hJ hd => ?_) ?_
            · have e9 : vals 9 = _ := hd 9 (by decide) (by kernel_rfl)
              rw [e9]
              exact ⟨by kernel_rfl, by kernel_rfl, rfl⟩
            refine wpG_cons (gop (Instr.indexAt 56 (.pointer (some ⟨b, 42, none⟩)) (.int .i64 ((slot S seed) : Nat))) (.pointer (some ⟨b, 42 + (slot S seed), none⟩)) (fun _ h => h) fun w_ hJ hd => ?_) wpG_nil
            · have e10 : vals 10 = _ := hd 10 (by decide) (by kernel_rfl)
              have e3 : vals 3 = _ := hd 3 (by decide) (by kernel_rfl)
              rw [e10, e3]
              exact ⟨by kernel_rfl, by kernel_rfl, run_ixb b 42 _ hn8 w_, rfl⟩
          · intro vals w_ hJ hf
            have e0 : vals 0 = _ := hf 0 (by decide)
            have e1 : vals 1 = _ := hf 1 (by decide)
            have e2 : vals 2 = _ := hf 2 (by decide)
            have e3 : vals 3 = _ := hf 3 (by decide)
            have e4 : vals 4 = _ := hf 4 (by decide)
            have e5 : vals 5 = _ := hf 5 (by decide)
            have e6 : vals 6 = _ := hf 6 (by decide)
            have e7 : vals 7 = _ := hf 7 (by decide)
            have e9 : vals 9 = _ := hf 9 (by decide)
            have e10 : vals 10 = _ := hf 10 (by decide)
            have e11 : vals 11 = _ := hf 11 (by decide)
            have e8 : Heap w0 w_ (HP.blk w.heap.size #[.int .u64 x, .int .i64 0, .int .u64 sp, .bool gl, .int .u64 lf] 33 :: HP.blk b (setL (tcs (slotSeed S seed) bm S) (2 + (slot S seed) * 5) (⟨x, 0, sp, gl, lf⟩ : E).cs).toArray 58 :: HP.mp K.enc K.ok bm (fun k' => if k' = (⟨x, 0, sp, gl, lf⟩ : E).key then some (.int .i64 (slot S seed : Nat)) else plF (put S (slot S seed) none) k') :: L) := hf 8 (by decide)
            show Oper.wp _ _ (fillG vals 0 (_ :: _ :: _ :: _ :: _ :: _ :: _ :: _ :: _ :: _ :: _ :: _ :: []) _) _ _ _
            simp only [fillG, Nat.zero_add, Nat.reduceAdd, e0, e1, e2, e3, e4, e5, e6, e7, e9, e10, e11, Act.put, List.setIfInBounds_toArray, List.set_cons_succ, List.set_cons_zero]
            clear e0 e1 e2 e3 e4 e5 e6 e7 e9 e10 e11 hf
            generalize vals 8 = v8 at *
            have hfc := there_blk (n := 1) (o := 42 + (slot S seed)) e8.f2.heap (by simp [setL_len, tcs]; omega)
            obtain ⟨hc1, hc2⟩ := hfc 0 (by omega)
            obtain ⟨u, hu⟩ := Option.isSome_iff_exists.1 hc1
            refine wp_last_skip (w' := w_.setCell ⟨b, 42 + (slot S seed), none⟩ (.bool true)) (m := Instr.storeAt 4 (.pointer (some ⟨b, 42 + (slot S seed), none⟩)) (.bool true)) (by kernel_rfl) (run_store1 (by kernel_rfl) rfl rfl hu hc2) ?_
            show Exit.then _ _ Exit.normal (Act.put ⟨_, _⟩ none _) _
            simp only [Act.put]
            clear hst
            have hfin := e8.f2.setl (42 + (slot S seed)) (.bool true)
            have hput := tcs_put (slotSeed S seed) bm S (slot S seed) hn8 (some (⟨x, 0, sp, gl, lf⟩ : E))
            simp only [Option.getD_some, Option.isSome_some] at hput
            rw [hput] at hfin
            clear e8 hput hu hc1 hc2
            go_wp2
            go_ret
            refine ⟨rfl, Heap.tl.2 ⟨bm, ⟨?_, ?_⟩, ?_⟩⟩
            · rw [hps0 hp]; exact hI.put_some hok fun m f m8 _ hf => place_none hp m f m8 hf
            · rw [hpseed0 hp]; exact slotSeed_bd S hsd.1 hsd.2
            · rw [hps0 hp, hpseed0 hp, plF_put_new hI hn8 hok hp]
              exact hfin.f2.tail
  · have e1 := mask21 x h0 h1
    have z : (x % 2097152 == 0) = true := beq_iff_eq.2 hz
    go_enter Try.func11, Try.ntmps11
    go_wp2
    go_quiet (fail)
    have J1 := (h.new #[.int .u64 x, .int .i64 1, .int .u64 sp, .bool gl, .int .u64 lf] 33).drewN nq
    have hlk : ∀ w_, Heap w0 w_ (HP.mp K.enc K.ok bm (plF S) :: HP.blk w.heap.size #[.int .u64 x, .int .i64 1, .int .u64 sp, .bool gl, .int .u64 lf] 33 :: HP.blk b (tcs seed bm S).toArray 58 :: L) → (Instr.lookup 54 (.map (some bm)) (⟨x, 1, sp, gl, lf⟩ : E).key.enc true).run Try.prog w_ = .ok (.tuple #[(plF S (⟨x, 1, sp, gl, lf⟩ : E).key).getD (.int .i64 0), .bool (plF S (⟨x, 1, sp, gl, lf⟩ : E).key).isSome]) w_ := fun w_ hJ => hJ.mpLook keyLaw (E.key_ok hok) (by kernel_rfl)
    unfold plF at hlk
    cases hp : place S (⟨x, 1, sp, gl, lf⟩ : E).key with
    | some n =>
      rw [hp] at hlk
      change ∀ w_, Heap w0 w_ (HP.mp K.enc K.ok bm (plF S) :: HP.blk w.heap.size #[.int .u64 x, .int .i64 1, .int .u64 sp, .bool gl, .int .u64 lf] 33 :: HP.blk b (tcs seed bm S).toArray 58 :: L) → (Instr.lookup 54 (.map (some bm)) (⟨x, 1, sp, gl, lf⟩ : E).key.enc true).run Try.prog w_ = .ok (.tuple #[.int .i64 (n : Nat), .bool true]) w_ at hlk
      have hn8 := (place_some hp).1
      go_wp2
      refine wp_region_F (fun w_ => Heap w0 w_ (HP.blk w.heap.size #[.int .u64 x, .int .i64 1, .int .u64 sp, .bool gl, .int .u64 lf] 33 :: HP.blk b (tcs seed bm S).toArray 58 :: HP.mp K.enc K.ok bm (plF S) :: L)) GN (fun k_ v_ w_ => match k_ with
          | 0 => v_ = .pointer (some ⟨b, 0, none⟩)
          | 1 => v_ = .pointer (some ⟨b, 0, none⟩)
          | 2 => v_ = .pointer (some ⟨b, 1, none⟩)
          | 3 => v_ = .map (some bm)
          | 4 => v_ = .agg #[.int .u64 x, .int .i64 1, .int .u64 sp, .bool gl, .int .u64 lf]
          | 5 => v_ = (⟨x, 1, sp, gl, lf⟩ : E).key.enc
          | 6 => v_ = .tuple #[.int .i64 (n : Nat), .bool true]
          | 7 => v_ = .tuple #[.int .i64 (n : Nat), .bool true]
          | 8 => v_ = .int .i64 (n : Nat)
          | 9 => v_ = .bool true
          | 10 => v_ = .int .i64 (n : Nat)
          | _ => v_ = .bool true) fol (by kernel_rfl) ?_ ?_ ?_ ?_
      · exact J1.drew
      · intro k_ v_ w_ w2_ h1 hg
        split at h1 <;> exact h1
      · intro vals
        show wpG _ _ _ _ _ _ 0 (_ :: _) _
        refine wpG_cons (gval (.pointer (some ⟨b, 0, none⟩)) GN.refl fun w_ hJ hd => ?_) ?_
        · exact ⟨by kernel_rfl, by kernel_rfl, rfl⟩
        refine wpG_cons (gval (.pointer (some ⟨b, 0, none⟩)) GN.refl fun w_ hJ hd => ?_) ?_
        · have e0 : vals 0 = _ := hd 0 (by decide) (by kernel_rfl)
          rw [e0]
          exact ⟨by kernel_rfl, by kernel_rfl, rfl⟩
        refine wpG_cons (gval (.pointer (some ⟨b, 1, none⟩)) GN.refl fun w_ hJ hd => ?_) ?_
        · have e1 : vals 1 = _ := hd 1 (by decide) (by kernel_rfl)
          rw [e1]
          exact ⟨by kernel_rfl, by kernel_rfl, rfl⟩
        refine wpG_cons (gop (Instr.loadAt 54 (.pointer (some ⟨b, 1, none⟩))) (.map (some bm)) GN.refl fun w_ hJ hd => ?_) ?_
        · have e2 : vals 2 = _ := hd 2 (by decide) (by kernel_rfl)
          rw [e2]
          exact ⟨by kernel_rfl, by kernel_rfl, run_load1 (by kernel_rfl) (tcs_map hJ.f2.heap), rfl⟩
        refine wpG_cons (gop (Instr.loadAt 33 (.pointer (some ⟨w.heap.size, 0, none⟩))) (.agg #[.int .u64 x, .int .i64 1, .int .u64 sp, .bool gl, .int .u64 lf]) GN.refl fun w_ hJ hd => ?_) ?_
        · exact ⟨by kernel_rfl, by kernel_rfl, load_box hJ.heap, rfl⟩
        refine wpG_cons (gcall 24 #[.agg #[.int .u64 x, .int .i64 1, .int .u64 sp, .bool gl, .int .u64 lf]] fun w_ hJ hd => ?_) ?_
        · have e4 : vals 4 = _ := hd 4 (by decide) (by kernel_rfl)
          rw [e4]
          exact ⟨by kernel_rfl, by kernel_rfl, (key_any (⟨x, 1, sp, gl, lf⟩ : E) w_).mono fun _ w' ⟨hr, hg⟩ => ⟨_, hr, hJ.grown hg, hg, rfl⟩⟩
        refine wpG_cons (gop (Instr.lookup 54 (.map (some bm)) (⟨x, 1, sp, gl, lf⟩ : E).key.enc true) (.tuple #[.int .i64 (n : Nat), .bool true]) GN.refl fun w_ hJ hd => ?_) ?_
        · have e3 : vals 3 = _ := hd 3 (by decide) (by kernel_rfl)
          have e5 : vals 5 = _ := hd 5 (by decide) (by kernel_rfl)
          rw [e3, e5]
          exact ⟨by kernel_rfl, by kernel_rfl, hlk w_ hJ.f3, rfl⟩
        refine wpG_cons (gval (.tuple #[.int .i64 (n : Nat), .bool true]) GN.refl fun w_ hJ hd => ?_) ?_
        · have e6 : vals 6 = _ := hd 6 (by decide) (by kernel_rfl)
          rw [e6]
          exact ⟨by kernel_rfl, by kernel_rfl, rfl⟩
        refine wpG_cons (gval (.int .i64 (n : Nat)) GN.refl fun w_ hJ hd => ?_) ?_
        · have e7 : vals 7 = _ := hd 7 (by decide) (by kernel_rfl)
          rw [e7]
          exact ⟨by kernel_rfl, by kernel_rfl, rfl⟩
        refine wpG_cons (gval (.bool true) GN.refl fun w_ hJ hd => ?_) ?_
        · have e7 : vals 7 = _ := hd 7 (by decide) (by kernel_rfl)
          rw [e7]
          exact ⟨by kernel_rfl, by kernel_rfl, rfl⟩
        refine wpG_cons (gval (.int .i64 (n : Nat)) GN.refl fun w_ hJ hd => ?_) ?_
        · have e8 : vals 8 = _ := hd 8 (by decide) (by kernel_rfl)
          rw [e8]
          exact ⟨by kernel_rfl, by kernel_rfl, rfl⟩
        refine wpG_cons (gval (.bool true) GN.refl fun w_ hJ hd => ?_) wpG_nil
        · have e9 : vals 9 = _ := hd 9 (by decide) (by kernel_rfl)
          rw [e9]
          exact ⟨by kernel_rfl, by kernel_rfl, rfl⟩
      · intro vals w_ hJ hf
        have e0 : vals 0 = _ := hf 0 (by decide)
        have e1 : vals 1 = _ := hf 1 (by decide)
        have e2 : vals 2 = _ := hf 2 (by decide)
        have e3 : vals 3 = _ := hf 3 (by decide)
        have e4 : vals 4 = _ := hf 4 (by decide)
        have e5 : vals 5 = _ := hf 5 (by decide)
        have e6 : vals 6 = _ := hf 6 (by decide)
        have e7 : vals 7 = _ := hf 7 (by decide)
        have e8 : vals 8 = _ := hf 8 (by decide)
        have e9 : vals 9 = _ := hf 9 (by decide)
        have e10 : vals 10 = _ := hf 10 (by decide)
        have e11 : vals 11 = _ := hf 11 (by decide)
        simp only [fillG, Nat.zero_add, Nat.reduceAdd, e0, e1, e2, e3, e4, e5, e6, e7, e8, e9, e10, e11, Act.put, List.setIfInBounds_toArray, List.set_cons_succ, List.set_cons_zero]
        clear e0 e1 e2 e3 e4 e5 e6 e7 e8 e9 e10 e11 hf
        clear hlk J1
        go_wp2
        have hst : ∀ w_, (Heap w0 w_ (HP.blk w.heap.size #[.int .u64 x, .int .i64 1, .int .u64 sp, .bool gl, .int .u64 lf] 33 :: HP.blk b (tcs seed bm S).toArray 58 :: HP.mp K.enc K.ok bm (plF S) :: L) ∨ Heap w0 w_ (HP.blk w.heap.size #[.int .u64 x, .int .i64 1, .int .u64 sp, .bool gl, .int .u64 lf] 33 :: HP.blk b (setL (tcs seed bm S) (2 + n * 5) (⟨x, 1, sp, gl, lf⟩ : E).cs).toArray 58 :: HP.mp K.enc K.ok bm (plF S) :: L)) → (Instr.storeAt 33 (.pointer (some ⟨b, 2 + n * 5, none⟩)) (.agg #[.int .u64 x, .int .i64 1, .int .u64 sp, .bool gl, .int .u64 lf])).run Try.prog w_ = .ok () (w_.setCells b (2 + n * 5) (⟨x, 1, sp, gl, lf⟩ : E).cs) ∧ Heap w0 (w_.setCells b (2 + n * 5) (⟨x, 1, sp, gl, lf⟩ : E).cs) (HP.blk w.heap.size #[.int .u64 x, .int .i64 1, .int .u64 sp, .bool gl, .int .u64 lf] 33 :: HP.blk b (setL (tcs seed bm S) (2 + n * 5) (⟨x, 1, sp, gl, lf⟩ : E).cs).toArray 58 :: HP.mp K.enc K.ok bm (plF S) :: L) := by
          intro w_ hJ
          rcases hJ with hJ | hJ
          · exact ⟨run_storeAt_mid w_ b _ 33 #[.int .u64 x, .int .i64 1, .int .u64 sp, .bool gl, .int .u64 lf] (there_blk hJ.f2.heap (by simp [tcs]; omega)) (by kernel_rfl) (by kernel_rfl), (hJ.f2.sets _ _).f2⟩
          · have h3 := (hJ.f2.sets (⟨x, 1, sp, gl, lf⟩ : E).cs (2 + n * 5)).f2
            rw [setL_idem _ _ _ (by simp [tcs, E.cs]; omega)] at h3
            exact ⟨run_storeAt_mid w_ b _ 33 #[.int .u64 x, .int .i64 1, .int .u64 sp, .bool gl, .int .u64 lf] (there_blk hJ.f2.heap (by simp [setL_len, tcs]; omega)) (by kernel_rfl) (by kernel_rfl), h3⟩
        refine wp_region_E (fun w_ => Heap w0 w_ (HP.blk w.heap.size #[.int .u64 x, .int .i64 1, .int .u64 sp, .bool gl, .int .u64 lf] 33 :: HP.blk b (tcs seed bm S).toArray 58 :: HP.mp K.enc K.ok bm (plF S) :: L) ∨ Heap w0 w_ (HP.blk w.heap.size #[.int .u64 x, .int .i64 1, .int .u64 sp, .bool gl, .int .u64 lf] 33 :: HP.blk b (setL (tcs seed bm S) (2 + n * 5) (⟨x, 1, sp, gl, lf⟩ : E).cs).toArray 58 :: HP.mp K.enc K.ok bm (plF S) :: L)) (fun x_ y_ => (Heap w0 x_ (HP.blk w.heap.size #[.int .u64 x, .int .i64 1, .int .u64 sp, .bool gl, .int .u64 lf] 33 :: HP.blk b (setL (tcs seed bm S) (2 + n * 5) (⟨x, 1, sp, gl, lf⟩ : E).cs).toArray 58 :: HP.mp K.enc K.ok bm (plF S) :: L) → Heap w0 y_ (HP.blk w.heap.size #[.int .u64 x, .int .i64 1, .int .u64 sp, .bool gl, .int .u64 lf] 33 :: HP.blk b (setL (tcs seed bm S) (2 + n * 5) (⟨x, 1, sp, gl, lf⟩ : E).cs).toArray 58 :: HP.mp K.enc K.ok bm (plF S) :: L))) (fun k_ v_ w_ => match k_ with
            | 0 => v_ = .pointer (some ⟨b, 0, none⟩)
            | 1 => v_ = .int .i64 (n : Nat)
            | 2 => v_ = .pointer (some ⟨b, 0, none⟩)
            | 3 => v_ = .int .i64 (n : Nat)
            | 4 => v_ = .agg #[.int .u64 x, .int .i64 1, .int .u64 sp, .bool gl, .int .u64 lf]
            | 5 => v_ = .pointer (some ⟨b, 0, none⟩)
            | 6 => v_ = .pointer (some ⟨b, 2, none⟩)
            | 7 => v_ = .pointer (some ⟨b, 2 + n * 5, none⟩)
            | 8 => Heap w0 w_ (HP.blk w.heap.size #[.int .u64 x, .int .i64 1, .int .u64 sp, .bool gl, .int .u64 lf] 33 :: HP.blk b (setL (tcs seed bm S) (2 + n * 5) (⟨x, 1, sp, gl, lf⟩ : E).cs).toArray 58 :: HP.mp K.enc K.ok bm (plF S) :: L)
            | 9 => v_ = .pointer (some ⟨b, 0, none⟩)
            | 10 => v_ = .pointer (some ⟨b, 42, none⟩)
            | _ => v_ = .pointer (some ⟨b, 42 + n, none⟩)) fol (by kernel_rfl) ?_ ?_ (n := 12) rfl rfl rfl (by kernel_rfl) ?_ ?_
        · exact .inl hJ.drew
        · intro k_ v_ w_ w2_ h1 hg
          split at h1 <;> first | exact h1 | exact hg h1
        · intro vals
          show wpG _ _ _ _ _ _ 0 (_ :: _) _
          refine wpG_cons (gval (.pointer (some ⟨b, 0, none⟩)) (fun _ h => h) fun w_ hJ hd => ?_) ?_
          · exact ⟨by kernel_rfl, by kernel_rfl, rfl⟩
          refine wpG_cons (gval (.int .i64 (n : Nat)) (fun _ h => h) fun w_ hJ hd => ?_) ?_
          · exact ⟨by kernel_rfl, by kernel_rfl, rfl⟩
          refine wpG_cons (gval (.pointer (some ⟨b, 0, none⟩)) (fun _ h => h) fun w_ hJ hd => ?_) ?_
          · exact ⟨by kernel_rfl, by kernel_rfl, rfl⟩
          refine wpG_cons (gval (.int .i64 (n : Nat)) (fun _ h => h) fun w_ hJ hd => ?_) ?_
          · exact ⟨by kernel_rfl, by kernel_rfl, rfl⟩
          refine wpG_cons (gop (Instr.loadAt 33 (.pointer (some ⟨w.heap.size, 0, none⟩))) (.agg #[.int .u64 x, .int .i64 1, .int .u64 sp, .bool gl, .int .u64 lf]) (fun _ h => h) fun w_ hJ hd => ?_) ?_
          · exact ⟨by kernel_rfl, by kernel_rfl, load_box (hJ.elim (fun h => h.heap) (fun h => h.heap)), rfl⟩
          refine wpG_cons (gval (.pointer (some ⟨b, 0, none⟩)) (fun _ h => h) fun w_ hJ hd => ?_) ?_
          · have e0 : vals 0 = _ := hd 0 (by decide) (by kernel_rfl)
            rw [e0]
            exact ⟨by kernel_rfl, by kernel_rfl, rfl⟩
          refine wpG_cons (gval (.pointer (some ⟨b, 2, none⟩)) (fun _ h => h) fun w_ hJ hd => ?_) ?_
          · have e5 : vals 5 = _ := hd 5 (by decide) (by kernel_rfl)
            rw [e5]
            exact ⟨by kernel_rfl, by kernel_rfl, rfl⟩
          refine wpG_cons (gop (Instr.indexAt 55 (.pointer (some ⟨b, 2, none⟩)) (.int .i64 (n : Nat))) (.pointer (some ⟨b, 2 + n * 5, none⟩)) (fun _ h => h) fun w_ hJ hd => ?_) ?_
          · have e6 : vals 6 = _ := hd 6 (by decide) (by kernel_rfl)
            have e1 : vals 1 = _ := hd 1 (by decide) (by kernel_rfl)
            rw [e6, e1]
            exact ⟨by kernel_rfl, by kernel_rfl, run_ixa b 2 _ hn8 w_, rfl⟩
          refine wpG_cons (gunit fun w_ hJ hd => ?_) ?_
          · have e7 : vals 7 = _ := hd 7 (by decide) (by kernel_rfl)
            have e4 : vals 4 = _ := hd 4 (by decide) (by kernel_rfl)
            rw [e7, e4]
            have hS := hst w_ hJ
            exact ⟨by kernel_rfl, _, Eq.trans (b := Sem.run Try.prog (do Instr.storeAt 33 (.pointer (some ⟨b, 2 + n * 5, none⟩)) (.agg #[.int .u64 x, .int .i64 1, .int .u64 sp, .bool gl, .int .u64 lf]); pure Next.skip : Sem Next) w_) (by kernel_rfl) (run_unit (hS.1)), .inr hS.2, fun _ => hS.2, hS.2⟩
          refine wpG_cons (gval (.pointer (some ⟨b, 0, none⟩)) (fun _ h => h) fun w_ hJ hd => ?_) ?_
          · have e2 : vals 2 = _ := hd 2 (by decide) (by kernel_rfl)
            rw [e2]
            exact ⟨by kernel_rfl, by kernel_rfl, rfl⟩
          refine wpG_cons (gval (.pointer (some ⟨b, 42, none⟩)) (fun _ h => h) fun w_ hJ hd => ?_) ?_
          · have e9 : vals 9 = _ := hd 9 (by decide) (by kernel_rfl)
            rw [e9]
            exact ⟨by kernel_rfl, by kernel_rfl, rfl⟩
          refine wpG_cons (gop (Instr.indexAt 56 (.pointer (some ⟨b, 42, none⟩)) (.int .i64 (n : Nat))) (.pointer (some ⟨b, 42 + n, none⟩)) (fun _ h => h) fun w_ hJ hd => ?_) wpG_nil
          · have e10 : vals 10 = _ := hd 10 (by decide) (by kernel_rfl)
            have e3 : vals 3 = _ := hd 3 (by decide) (by kernel_rfl)
            rw [e10, e3]
            exact ⟨by kernel_rfl, by kernel_rfl, run_ixb b 42 _ hn8 w_, rfl⟩
        · intro vals w_ hJ hf
          have e0 : vals 0 = _ := hf 0 (by decide)
          have e1 : vals 1 = _ := hf 1 (by decide)
          have e2 : vals 2 = _ := hf 2 (by decide)
          have e3 : vals 3 = _ := hf 3 (by decide)
          have e4 : vals 4 = _ := hf 4 (by decide)
          have e5 : vals 5 = _ := hf 5 (by decide)
          have e6 : vals 6 = _ := hf 6 (by decide)
          have e7 : vals 7 = _ := hf 7 (by decide)
          have e9 : vals 9 = _ := hf 9 (by decide)
          have e10 : vals 10 = _ := hf 10 (by decide)
          have e11 : vals 11 = _ := hf 11 (by decide)
          have e8 : Heap w0 w_ (HP.blk w.heap.size #[.int .u64 x, .int .i64 1, .int .u64 sp, .bool gl, .int .u64 lf] 33 :: HP.blk b (setL (tcs seed bm S) (2 + n * 5) (⟨x, 1, sp, gl, lf⟩ : E).cs).toArray 58 :: HP.mp K.enc K.ok bm (plF S) :: L) := hf 8 (by decide)
          show Oper.wp _ _ (fillG vals 0 (_ :: _ :: _ :: _ :: _ :: _ :: _ :: _ :: _ :: _ :: _ :: _ :: []) _) _ _ _
          simp only [fillG, Nat.zero_add, Nat.reduceAdd, e0, e1, e2, e3, e4, e5, e6, e7, e9, e10, e11, Act.put, List.setIfInBounds_toArray, List.set_cons_succ, List.set_cons_zero]
          clear e0 e1 e2 e3 e4 e5 e6 e7 e9 e10 e11 hf
          generalize vals 8 = v8 at *
          have hfc := there_blk (n := 1) (o := 42 + n) e8.f2.heap (by simp [setL_len, tcs]; omega)
          obtain ⟨hc1, hc2⟩ := hfc 0 (by omega)
          obtain ⟨u, hu⟩ := Option.isSome_iff_exists.1 hc1
          refine wp_last_skip (w' := w_.setCell ⟨b, 42 + n, none⟩ (.bool true)) (m := Instr.storeAt 4 (.pointer (some ⟨b, 42 + n, none⟩)) (.bool true)) (by kernel_rfl) (run_store1 (by kernel_rfl) rfl rfl hu hc2) ?_
          show Exit.then _ _ Exit.normal (Act.put ⟨_, _⟩ none _) _
          simp only [Act.put]
          clear hst
          have hfin := e8.f2.setl (42 + n) (.bool true)
          have hput := tcs_put seed bm S n hn8 (some (⟨x, 1, sp, gl, lf⟩ : E))
          simp only [Option.getD_some, Option.isSome_some] at hput
          rw [hput] at hfin
          clear e8 hput hu hc1 hc2
          go_wp2
          go_ret
          refine ⟨rfl, Heap.tl.2 ⟨bm, ⟨?_, ?_⟩, ?_⟩⟩
          · rw [hps hp]; exact (place_put_same hI hok hp (⟨x, 1, sp, gl, lf⟩ : E).key).1
          · rw [hpseed hp]; exact hsd
          · rw [hps hp, hpseed hp, plF_put_same hI hok hp]
            exact hfin.f2.tail
    | none =>
      rw [hp] at hlk
      change ∀ w_, Heap w0 w_ (HP.mp K.enc K.ok bm (plF S) :: HP.blk w.heap.size #[.int .u64 x, .int .i64 1, .int .u64 sp, .bool gl, .int .u64 lf] 33 :: HP.blk b (tcs seed bm S).toArray 58 :: L) → (Instr.lookup 54 (.map (some bm)) (⟨x, 1, sp, gl, lf⟩ : E).key.enc true).run Try.prog w_ = .ok (.tuple #[.int .i64 0, .bool false]) w_ at hlk
      have hn8 := slot_lt S seed
      go_wp2
      refine wp_region_F (fun w_ => Heap w0 w_ (HP.blk w.heap.size #[.int .u64 x, .int .i64 1, .int .u64 sp, .bool gl, .int .u64 lf] 33 :: HP.blk b (tcs seed bm S).toArray 58 :: HP.mp K.enc K.ok bm (plF S) :: L)) GN (fun k_ v_ w_ => match k_ with
          | 0 => v_ = .pointer (some ⟨b, 0, none⟩)
          | 1 => v_ = .pointer (some ⟨b, 0, none⟩)
          | 2 => v_ = .pointer (some ⟨b, 1, none⟩)
          | 3 => v_ = .map (some bm)
          | 4 => v_ = .agg #[.int .u64 x, .int .i64 1, .int .u64 sp, .bool gl, .int .u64 lf]
          | 5 => v_ = (⟨x, 1, sp, gl, lf⟩ : E).key.enc
          | 6 => v_ = .tuple #[.int .i64 0, .bool false]
          | 7 => v_ = .tuple #[.int .i64 0, .bool false]
          | 8 => v_ = .int .i64 0
          | 9 => v_ = .bool false
          | 10 => v_ = .int .i64 0
          | _ => v_ = .bool false) fol (by kernel_rfl) ?_ ?_ ?_ ?_
      · exact J1.drew
      · intro k_ v_ w_ w2_ h1 hg
        split at h1 <;> exact h1
      · intro vals
        show wpG _ _ _ _ _ _ 0 (_ :: _) _
        refine wpG_cons (gval (.pointer (some ⟨b, 0, none⟩)) GN.refl fun w_ hJ hd => ?_) ?_
        · exact ⟨by kernel_rfl, by kernel_rfl, rfl⟩
        refine wpG_cons (gval (.pointer (some ⟨b, 0, none⟩)) GN.refl fun w_ hJ hd => ?_) ?_
        · have e0 : vals 0 = _ := hd 0 (by decide) (by kernel_rfl)
          rw [e0]
          exact ⟨by kernel_rfl, by kernel_rfl, rfl⟩
        refine wpG_cons (gval (.pointer (some ⟨b, 1, none⟩)) GN.refl fun w_ hJ hd => ?_) ?_
        · have e1 : vals 1 = _ := hd 1 (by decide) (by kernel_rfl)
          rw [e1]
          exact ⟨by kernel_rfl, by kernel_rfl, rfl⟩
        refine wpG_cons (gop (Instr.loadAt 54 (.pointer (some ⟨b, 1, none⟩))) (.map (some bm)) GN.refl fun w_ hJ hd => ?_) ?_
        · have e2 : vals 2 = _ := hd 2 (by decide) (by kernel_rfl)
          rw [e2]
          exact ⟨by kernel_rfl, by kernel_rfl, run_load1 (by kernel_rfl) (tcs_map hJ.f2.heap), rfl⟩
        refine wpG_cons (gop (Instr.loadAt 33 (.pointer (some ⟨w.heap.size, 0, none⟩))) (.agg #[.int .u64 x, .int .i64 1, .int .u64 sp, .bool gl, .int .u64 lf]) GN.refl fun w_ hJ hd => ?_) ?_
        · exact ⟨by kernel_rfl, by kernel_rfl, load_box hJ.heap, rfl⟩
        refine wpG_cons (gcall 24 #[.agg #[.int .u64 x, .int .i64 1, .int .u64 sp, .bool gl, .int .u64 lf]] fun w_ hJ hd => ?_) ?_
        · have e4 : vals 4 = _ := hd 4 (by decide) (by kernel_rfl)
          rw [e4]
          exact ⟨by kernel_rfl, by kernel_rfl, (key_any (⟨x, 1, sp, gl, lf⟩ : E) w_).mono fun _ w' ⟨hr, hg⟩ => ⟨_, hr, hJ.grown hg, hg, rfl⟩⟩
        refine wpG_cons (gop (Instr.lookup 54 (.map (some bm)) (⟨x, 1, sp, gl, lf⟩ : E).key.enc true) (.tuple #[.int .i64 0, .bool false]) GN.refl fun w_ hJ hd => ?_) ?_
        · have e3 : vals 3 = _ := hd 3 (by decide) (by kernel_rfl)
          have e5 : vals 5 = _ := hd 5 (by decide) (by kernel_rfl)
          rw [e3, e5]
          exact ⟨by kernel_rfl, by kernel_rfl, hlk w_ hJ.f3, rfl⟩
        refine wpG_cons (gval (.tuple #[.int .i64 0, .bool false]) GN.refl fun w_ hJ hd => ?_) ?_
        · have e6 : vals 6 = _ := hd 6 (by decide) (by kernel_rfl)
          rw [e6]
          exact ⟨by kernel_rfl, by kernel_rfl, rfl⟩
        refine wpG_cons (gval (.int .i64 0) GN.refl fun w_ hJ hd => ?_) ?_
        · have e7 : vals 7 = _ := hd 7 (by decide) (by kernel_rfl)
          rw [e7]
          exact ⟨by kernel_rfl, by kernel_rfl, rfl⟩
        refine wpG_cons (gval (.bool false) GN.refl fun w_ hJ hd => ?_) ?_
        · have e7 : vals 7 = _ := hd 7 (by decide) (by kernel_rfl)
          rw [e7]
          exact ⟨by kernel_rfl, by kernel_rfl, rfl⟩
        refine wpG_cons (gval (.int .i64 0) GN.refl fun w_ hJ hd => ?_) ?_
        · have e8 : vals 8 = _ := hd 8 (by decide) (by kernel_rfl)
          rw [e8]
          exact ⟨by kernel_rfl, by kernel_rfl, rfl⟩
        refine wpG_cons (gval (.bool false) GN.refl fun w_ hJ hd => ?_) wpG_nil
        · have e9 : vals 9 = _ := hd 9 (by decide) (by kernel_rfl)
          rw [e9]
          exact ⟨by kernel_rfl, by kernel_rfl, rfl⟩
      · intro vals w_ hJ hf
        have e0 : vals 0 = _ := hf 0 (by decide)
        have e1 : vals 1 = _ := hf 1 (by decide)
        have e2 : vals 2 = _ := hf 2 (by decide)
        have e3 : vals 3 = _ := hf 3 (by decide)
        have e4 : vals 4 = _ := hf 4 (by decide)
        have e5 : vals 5 = _ := hf 5 (by decide)
        have e6 : vals 6 = _ := hf 6 (by decide)
        have e7 : vals 7 = _ := hf 7 (by decide)
        have e8 : vals 8 = _ := hf 8 (by decide)
        have e9 : vals 9 = _ := hf 9 (by decide)
        have e10 : vals 10 = _ := hf 10 (by decide)
        have e11 : vals 11 = _ := hf 11 (by decide)
        simp only [fillG, Nat.zero_add, Nat.reduceAdd, e0, e1, e2, e3, e4, e5, e6, e7, e8, e9, e10, e11, Act.put, List.setIfInBounds_toArray, List.set_cons_succ, List.set_cons_zero]
        clear e0 e1 e2 e3 e4 e5 e6 e7 e8 e9 e10 e11 hf
        clear hlk J1
        go_wp2_with fail
        refine (free_h (hJ.b3) hI).mono ?_
        rintro r w4 ⟨rfl, hJ3⟩
        have J2 := hJ3.f3
        clear hJ hJ3
        go_wp2
        refine wp_region_E (fun w_ => Heap w0 w_ (HP.blk w.heap.size #[.int .u64 x, .int .i64 1, .int .u64 sp, .bool gl, .int .u64 lf] 33 :: HP.blk b (tcs (slotSeed S seed) bm S).toArray 58 :: HP.mp K.enc K.ok bm (plF (put S (slot S seed) none)) :: L)) GN (fun k_ v_ w_ => match k_ with
            | 0 => v_ = .pointer (some ⟨b, 0, none⟩)
            | 1 => v_ = .pointer (some ⟨b, 0, none⟩)
            | 2 => v_ = .pointer (some ⟨b, 1, none⟩)
            | 3 => v_ = .map (some bm)
            | 4 => v_ = .agg #[.int .u64 x, .int .i64 1, .int .u64 sp, .bool gl, .int .u64 lf]
            | 5 => v_ = (⟨x, 1, sp, gl, lf⟩ : E).key.enc
            | _ => v_ = .int .i64 (slot S seed : Nat)) fol (by kernel_rfl) ?_ ?_ (n := 7) rfl rfl rfl (by kernel_rfl) ?_ ?_
        · exact J2.drew
        · intro k_ v_ w_ w2_ h1 hg
          split at h1 <;> exact h1
        · intro vals
          show wpG _ _ _ _ _ _ 0 (_ :: _) _
          refine wpG_cons (gval (.pointer (some ⟨b, 0, none⟩)) GN.refl fun w_ hJ hd => ?_) ?_
          · exact ⟨by kernel_rfl, by kernel_rfl, rfl⟩
          refine wpG_cons (gval (.pointer (some ⟨b, 0, none⟩)) GN.refl fun w_ hJ hd => ?_) ?_
          · have e0 : vals 0 = _ := hd 0 (by decide) (by kernel_rfl)
            rw [e0]
            exact ⟨by kernel_rfl, by kernel_rfl, rfl⟩
          refine wpG_cons (gval (.pointer (some ⟨b, 1, none⟩)) GN.refl fun w_ hJ hd => ?_) ?_
          · have e1 : vals 1 = _ := hd 1 (by decide) (by kernel_rfl)
            rw [e1]
            exact ⟨by kernel_rfl, by kernel_rfl, rfl⟩
          refine wpG_cons (gop (Instr.loadAt 54 (.pointer (some ⟨b, 1, none⟩))) (.map (some bm)) GN.refl fun w_ hJ hd => ?_) ?_
          · have e2 : vals 2 = _ := hd 2 (by decide) (by kernel_rfl)
            rw [e2]
            exact ⟨by kernel_rfl, by kernel_rfl, run_load1 (by kernel_rfl) (tcs_map hJ.f2.heap), rfl⟩
          refine wpG_cons (gop (Instr.loadAt 33 (.pointer (some ⟨w.heap.size, 0, none⟩))) (.agg #[.int .u64 x, .int .i64 1, .int .u64 sp, .bool gl, .int .u64 lf]) GN.refl fun w_ hJ hd => ?_) ?_
          · exact ⟨by kernel_rfl, by kernel_rfl, load_box hJ.heap, rfl⟩
          refine wpG_cons (gcall 24 #[.agg #[.int .u64 x, .int .i64 1, .int .u64 sp, .bool gl, .int .u64 lf]] fun w_ hJ hd => ?_) ?_
          · have e4 : vals 4 = _ := hd 4 (by decide) (by kernel_rfl)
            rw [e4]
            exact ⟨by kernel_rfl, by kernel_rfl, (key_any (⟨x, 1, sp, gl, lf⟩ : E) w_).mono fun _ w' ⟨hr, hg⟩ => ⟨_, hr, hJ.grown hg, hg, rfl⟩⟩
          refine wpG_cons (gval (.int .i64 (slot S seed : Nat)) GN.refl fun w_ hJ hd => ?_) wpG_nil
          · exact ⟨by kernel_rfl, by kernel_rfl, rfl⟩
        · intro vals w_ hJ hf
          have e0 : vals 0 = _ := hf 0 (by decide)
          have e1 : vals 1 = _ := hf 1 (by decide)
          have e2 : vals 2 = _ := hf 2 (by decide)
          have e3 : vals 3 = _ := hf 3 (by decide)
          have e4 : vals 4 = _ := hf 4 (by decide)
          have e5 : vals 5 = _ := hf 5 (by decide)
          have e6 : vals 6 = _ := hf 6 (by decide)
          show Oper.wp _ _ (fillG vals 0 (_ :: _ :: _ :: _ :: _ :: _ :: _ :: []) _) _ _ _
          simp only [fillG, Nat.zero_add, Nat.reduceAdd, e0, e1, e2, e3, e4, e5, e6, Act.put, List.setIfInBounds_toArray, List.set_cons_succ, List.set_cons_zero]
          clear e0 e1 e2 e3 e4 e5 e6 hf
          obtain ⟨w6, hr6, hJ6, _⟩ := hJ.f3.mpStore keyLaw (E.key_ok hok) (.int .i64 (slot S seed : Nat))
          have hJ6 := hJ6.b3
          refine wp_last_skip (w' := w6) (m := Instr.mapUpdate 54 (.map (some bm)) (⟨x, 1, sp, gl, lf⟩ : E).key.enc (.int .i64 (slot S seed : Nat))) (by kernel_rfl) hr6 ?_
          show Exit.then _ _ Exit.normal (Act.put ⟨_, _⟩ none _) _
          simp only [Act.put]
          clear hr6 hJ J2
          go_wp2
          have hst : ∀ w_, (Heap w0 w_ (HP.blk w.heap.size #[.int .u64 x, .int .i64 1, .int .u64 sp, .bool gl, .int .u64 lf] 33 :: HP.blk b (tcs (slotSeed S seed) bm S).toArray 58 :: HP.mp K.enc K.ok bm (fun k' => if k' = (⟨x, 1, sp, gl, lf⟩ : E).key then some (.int .i64 (slot S seed : Nat)) else plF (put S (slot S seed) none) k') :: L) ∨ Heap w0 w_ (HP.blk w.heap.size #[.int .u64 x, .int .i64 1, .int .u64 sp, .bool gl, .int .u64 lf] 33 :: HP.blk b (setL (tcs (slotSeed S seed) bm S) (2 + (slot S seed) * 5) (⟨x, 1, sp, gl, lf⟩ : E).cs).toArray 58 :: HP.mp K.enc K.ok bm (fun k' => if k' = (⟨x, 1, sp, gl, lf⟩ : E).key then some (.int .i64 (slot S seed : Nat)) else plF (put S (slot S seed) none) k') :: L)) → (Instr.storeAt 33 (.pointer (some ⟨b, 2 + (slot S seed) * 5, none⟩)) (.agg #[.int .u64 x, .int .i64 1, .int .u64 sp, .bool gl, .int .u64 lf])).run Try.prog w_ = .ok () (w_.setCells b (2 + (slot S seed) * 5) (⟨x, 1, sp, gl, lf⟩ : E).cs) ∧ Heap w0 (w_.setCells b (2 + (slot S seed) * 5) (⟨x, 1, sp, gl, lf⟩ : E).cs) (HP.blk w.heap.size #[.int .u64 x, .int .i64 1, .int .u64 sp, .bool gl, .int .u64 lf] 33 :: HP.blk b (setL (tcs (slotSeed S seed) bm S) (2 + (slot S seed) * 5) (⟨x, 1, sp, gl, lf⟩ : E).cs).toArray 58 :: HP.mp K.enc K.ok bm (fun k' => if k' = (⟨x, 1, sp, gl, lf⟩ : E).key then some (.int .i64 (slot S seed : Nat)) else plF (put S (slot S seed) none) k') :: L) := by
            intro w_ hJ
            rcases hJ with hJ | hJ
            · exact ⟨run_storeAt_mid w_ b _ 33 #[.int .u64 x, .int .i64 1, .int .u64 sp, .bool gl, .int .u64 lf] (there_blk hJ.f2.heap (by simp [tcs]; omega)) (by kernel_rfl) (by kernel_rfl), (hJ.f2.sets _ _).f2⟩
            · have h3 := (hJ.f2.sets (⟨x, 1, sp, gl, lf⟩ : E).cs (2 + (slot S seed) * 5)).f2
              rw [setL_idem _ _ _ (by simp [tcs, E.cs]; omega)] at h3
              exact ⟨run_storeAt_mid w_ b _ 33 #[.int .u64 x, .int .i64 1, .int .u64 sp, .bool gl, .int .u64 lf] (there_blk hJ.f2.heap (by simp [setL_len, tcs]; omega)) (by kernel_rfl) (by kernel_rfl), h3⟩
          refine wp_region_E (fun w_ => Heap w0 w_ (HP.blk w.heap.size #[.int .u64 x, .int .i64 1, .int .u64 sp, .bool gl, .int .u64 lf] 33 :: HP.blk b (tcs (slotSeed S seed) bm S).toArray 58 :: HP.mp K.enc K.ok bm (fun k' => if k' = (⟨x, 1, sp, gl, lf⟩ : E).key then some (.int .i64 (slot S seed : Nat)) else plF (put S (slot S seed) none) k') :: L) ∨ Heap w0 w_ (HP.blk w.heap.size #[.int .u64 x, .int .i64 1, .int .u64 sp, .bool gl, .int .u64 lf] 33 :: HP.blk b (setL (tcs (slotSeed S seed) bm S) (2 + (slot S seed) * 5) (⟨x, 1, sp, gl, lf⟩ : E).cs).toArray 58 :: HP.mp K.enc K.ok bm (fun k' => if k' = (⟨x, 1, sp, gl, lf⟩ : E).key then some (.int .i64 (slot S seed : Nat)) else plF (put S (slot S seed) none) k') :: L)) (fun x_ y_ => (Heap w0 x_ (HP.blk w.heap.size #[.int .u64 x, .int .i64 1, .int .u64 sp, .bool gl, .int .u64 lf] 33 :: HP.blk b (setL (tcs (slotSeed S seed) bm S) (2 + (slot S seed) * 5) (⟨x, 1, sp, gl, lf⟩ : E).cs).toArray 58 :: HP.mp K.enc K.ok bm (fun k' => if k' = (⟨x, 1, sp, gl, lf⟩ : E).key then some (.int .i64 (slot S seed : Nat)) else plF (put S (slot S seed) none) k') :: L) → Heap w0 y_ (HP.blk w.heap.size #[.int .u64 x, .int .i64 1, .int .u64 sp, .bool gl, .int .u64 lf] 33 :: HP.blk b (setL (tcs (slotSeed S seed) bm S) (2 + (slot S seed) * 5) (⟨x, 1, sp, gl, lf⟩ : E).cs).toArray 58 :: HP.mp K.enc K.ok bm (fun k' => if k' = (⟨x, 1, sp, gl, lf⟩ : E).key then some (.int .i64 (slot S seed : Nat)) else plF (put S (slot S seed) none) k') :: L))) (fun k_ v_ w_ => match k_ with
              | 0 => v_ = .pointer (some ⟨b, 0, none⟩)
              | 1 => v_ = .int .i64 ((slot S seed) : Nat)
              | 2 => v_ = .pointer (some ⟨b, 0, none⟩)
              | 3 => v_ = .int .i64 ((slot S seed) : Nat)
              | 4 => v_ = .agg #[.int .u64 x, .int .i64 1, .int .u64 sp, .bool gl, .int .u64 lf]
              | 5 => v_ = .pointer (some ⟨b, 0, none⟩)
              | 6 => v_ = .pointer (some ⟨b, 2, none⟩)
              | 7 => v_ = .pointer (some ⟨b, 2 + (slot S seed) * 5, none⟩)
              | 8 => Heap w0 w_ (HP.blk w.heap.size #[.int .u64 x, .int .i64 1, .int .u64 sp, .bool gl, .int .u64 lf] 33 :: HP.blk b (setL (tcs (slotSeed S seed) bm S) (2 + (slot S seed) * 5) (⟨x, 1, sp, gl, lf⟩ : E).cs).toArray 58 :: HP.mp K.enc K.ok bm (fun k' => if k' = (⟨x, 1, sp, gl, lf⟩ : E).key then some (.int .i64 (slot S seed : Nat)) else plF (put S (slot S seed) none) k') :: L)
              | 9 => v_ = .pointer (some ⟨b, 0, none⟩)
              | 10 => v_ = .pointer (some ⟨b, 42, none⟩)
              | _ => v_ = .pointer (some ⟨b, 42 + (slot S seed), none⟩)) fol (by kernel_rfl) ?_ ?_ (n := 12) rfl rfl rfl (by kernel_rfl) ?_ ?_
          · exact .inl hJ6.drew
          · intro k_ v_ w_ w2_ h1 hg
            split at h1 <;> first | exact h1 | exact hg h1
          · intro vals
            show wpG _ _ _ _ _ _ 0 (_ :: _) _
            refine wpG_cons (gval (.pointer (some ⟨b, 0, none⟩)) (fun _ h => h) fun w_ hJ hd => ?_) ?_
            · exact ⟨by kernel_rfl, by kernel_rfl, rfl⟩
            refine wpG_cons (gval (.int .i64 ((slot S seed) : Nat)) (fun _ h => h) fun w_ hJ hd => ?_) ?_
            · exact ⟨by kernel_rfl, by kernel_rfl, rfl⟩
            refine wpG_cons (gval (.pointer (some ⟨b, 0, none⟩)) (fun _ h => h) fun w_ hJ hd => ?_) ?_
            · exact ⟨by kernel_rfl, by kernel_rfl, rfl⟩
            refine wpG_cons (gval (.int .i64 ((slot S seed) : Nat)) (fun _ h => h) fun w_ hJ hd => ?_) ?_
            · exact ⟨by kernel_rfl, by kernel_rfl, rfl⟩
            refine wpG_cons (gop (Instr.loadAt 33 (.pointer (some ⟨w.heap.size, 0, none⟩))) (.agg #[.int .u64 x, .int .i64 1, .int .u64 sp, .bool gl, .int .u64 lf]) (fun _ h => h) fun w_ hJ hd => ?_) ?_
            · exact ⟨by kernel_rfl, by kernel_rfl, load_box (hJ.elim (fun h => h.heap) (fun h => h.heap)), rfl⟩
            refine wpG_cons (gval (.pointer (some ⟨b, 0, none⟩)) (fun _ h => h) fun w_ hJ hd => ?_) ?_
            · have e0 : vals 0 = _ := hd 0 (by decide) (by kernel_rfl)
              rw [e0]
              exact ⟨by kernel_rfl, by kernel_rfl, rfl⟩
            refine wpG_cons (gval (.pointer (some ⟨b, 2, none⟩)) (fun _ h => h) fun w_ hJ hd => ?_) ?_
            · have e5 : vals 5 = _ := hd 5 (by decide) (by kernel_rfl)
              rw [e5]
              exact ⟨by kernel_rfl, by kernel_rfl, rfl⟩
            refine wpG_cons (gop (Instr.indexAt 55 (.pointer (some ⟨b, 2, none⟩)) (.int .i64 ((slot S seed) : Nat))) (.pointer (some ⟨b, 2 + (slot S seed) * 5, none⟩)) (fun _ h => h) fun w_ hJ hd => ?_) ?_
            · have e6 : vals 6 = _ := hd 6 (by decide) (by kernel_rfl)
              have e1 : vals 1 = _ := hd 1 (by decide) (by kernel_rfl)
              rw [e6, e1]
              exact ⟨by kernel_rfl, by kernel_rfl, run_ixa b 2 _ hn8 w_, rfl⟩
            refine wpG_cons (gunit fun w_ hJ hd => ?_) ?_
            · have e7 : vals 7 = _ := hd 7 (by decide) (by kernel_rfl)
              have e4 : vals 4 = _ := hd 4 (by decide) (by kernel_rfl)
              rw [e7, e4]
              have hS := hst w_ hJ
              exact ⟨by kernel_rfl, _, Eq.trans (b := Sem.run Try.prog (do Instr.storeAt 33 (.pointer (some ⟨b, 2 + (slot S seed) * 5, none⟩)) (.agg #[.int .u64 x, .int .i64 1, .int .u64 sp, .bool gl, .int .u64 lf]); pure Next.skip : Sem Next) w_) (by kernel_rfl) (run_unit (hS.1)), .inr hS.2, fun _ => hS.2, hS.2⟩
            refine wpG_cons (gval (.pointer (some ⟨b, 0, none⟩)) (fun _ h => h) fun w_ hJ hd => ?_) ?_
            · have e2 : vals 2 = _ := hd 2 (by decide) (by kernel_rfl)
              rw [e2]
              exact ⟨by kernel_rfl, by kernel_rfl, rfl⟩
            refine wpG_cons (gval (.pointer (some ⟨b, 42, none⟩)) (fun _ h => h) fun w_ hJ hd => ?_) ?_
            · have e9 : vals 9 = _ := hd 9 (by decide) (by kernel_rfl)
              rw [e9]
              exact ⟨by kernel_rfl, by kernel_rfl, rfl⟩
            refine wpG_cons (gop (Instr.indexAt 56 (.pointer (some ⟨b, 42, none⟩)) (.int .i64 ((slot S seed) : Nat))) (.pointer (some ⟨b, 42 + (slot S seed), none⟩)) (fun _ h => h) fun w_ hJ hd => ?_) wpG_nil
            · have e10 : vals 10 = _ := hd 10 (by decide) (by kernel_rfl)
              have e3 : vals 3 = _ := hd 3 (by decide) (by kernel_rfl)
              rw [e10, e3]
              exact ⟨by kernel_rfl, by kernel_rfl, run_ixb b 42 _ hn8 w_, rfl⟩
          · intro vals w_ hJ hf
            have e0 : vals 0 = _ := hf 0 (by decide)
            have e1 : vals 1 = _ := hf 1 (by decide)
            have e2 : vals 2 = _ := hf 2 (by decide)
            have e3 : vals 3 = _ := hf 3 (by decide)
            have e4 : vals 4 = _ := hf 4 (by decide)
            have e5 : vals 5 = _ := hf 5 (by decide)
            have e6 : vals 6 = _ := hf 6 (by decide)
            have e7 : vals 7 = _ := hf 7 (by decide)
            have e9 : vals 9 = _ := hf 9 (by decide)
            have e10 : vals 10 = _ := hf 10 (by decide)
            have e11 : vals 11 = _ := hf 11 (by decide)
            have e8 : Heap w0 w_ (HP.blk w.heap.size #[.int .u64 x, .int .i64 1, .int .u64 sp, .bool gl, .int .u64 lf] 33 :: HP.blk b (setL (tcs (slotSeed S seed) bm S) (2 + (slot S seed) * 5) (⟨x, 1, sp, gl, lf⟩ : E).cs).toArray 58 :: HP.mp K.enc K.ok bm (fun k' => if k' = (⟨x, 1, sp, gl, lf⟩ : E).key then some (.int .i64 (slot S seed : Nat)) else plF (put S (slot S seed) none) k') :: L) := hf 8 (by decide)
            show Oper.wp _ _ (fillG vals 0 (_ :: _ :: _ :: _ :: _ :: _ :: _ :: _ :: _ :: _ :: _ :: _ :: []) _) _ _ _
            simp only [fillG, Nat.zero_add, Nat.reduceAdd, e0, e1, e2, e3, e4, e5, e6, e7, e9, e10, e11, Act.put, List.setIfInBounds_toArray, List.set_cons_succ, List.set_cons_zero]
            clear e0 e1 e2 e3 e4 e5 e6 e7 e9 e10 e11 hf
            generalize vals 8 = v8 at *
            have hfc := there_blk (n := 1) (o := 42 + (slot S seed)) e8.f2.heap (by simp [setL_len, tcs]; omega)
            obtain ⟨hc1, hc2⟩ := hfc 0 (by omega)
            obtain ⟨u, hu⟩ := Option.isSome_iff_exists.1 hc1
            refine wp_last_skip (w' := w_.setCell ⟨b, 42 + (slot S seed), none⟩ (.bool true)) (m := Instr.storeAt 4 (.pointer (some ⟨b, 42 + (slot S seed), none⟩)) (.bool true)) (by kernel_rfl) (run_store1 (by kernel_rfl) rfl rfl hu hc2) ?_
            show Exit.then _ _ Exit.normal (Act.put ⟨_, _⟩ none _) _
            simp only [Act.put]
            clear hst
            have hfin := e8.f2.setl (42 + (slot S seed)) (.bool true)
            have hput := tcs_put (slotSeed S seed) bm S (slot S seed) hn8 (some (⟨x, 1, sp, gl, lf⟩ : E))
            simp only [Option.getD_some, Option.isSome_some] at hput
            rw [hput] at hfin
            clear e8 hput hu hc1 hc2
            go_wp2
            go_ret
            refine ⟨rfl, Heap.tl.2 ⟨bm, ⟨?_, ?_⟩, ?_⟩⟩
            · rw [hps0 hp]; exact hI.put_some hok fun m f m8 _ hf => place_none hp m f m8 hf
            · rw [hpseed0 hp]; exact slotSeed_bd S hsd.1 hsd.2
            · rw [hps0 hp, hpseed0 hp, plF_put_new hI hn8 hok hp]
              exact hfin.f2.tail
  · have e1 := mask30 x h0 h1
    have z : (x % 1073741824 == 0) = true := beq_iff_eq.2 hz
    go_enter Try.func11, Try.ntmps11
    go_wp2
    go_quiet (fail)
    have J1 := (h.new #[.int .u64 x, .int .i64 2, .int .u64 sp, .bool gl, .int .u64 lf] 33).drewN nq
    have hlk : ∀ w_, Heap w0 w_ (HP.mp K.enc K.ok bm (plF S) :: HP.blk w.heap.size #[.int .u64 x, .int .i64 2, .int .u64 sp, .bool gl, .int .u64 lf] 33 :: HP.blk b (tcs seed bm S).toArray 58 :: L) → (Instr.lookup 54 (.map (some bm)) (⟨x, 2, sp, gl, lf⟩ : E).key.enc true).run Try.prog w_ = .ok (.tuple #[(plF S (⟨x, 2, sp, gl, lf⟩ : E).key).getD (.int .i64 0), .bool (plF S (⟨x, 2, sp, gl, lf⟩ : E).key).isSome]) w_ := fun w_ hJ => hJ.mpLook keyLaw (E.key_ok hok) (by kernel_rfl)
    unfold plF at hlk
    cases hp : place S (⟨x, 2, sp, gl, lf⟩ : E).key with
    | some n =>
      rw [hp] at hlk
      change ∀ w_, Heap w0 w_ (HP.mp K.enc K.ok bm (plF S) :: HP.blk w.heap.size #[.int .u64 x, .int .i64 2, .int .u64 sp, .bool gl, .int .u64 lf] 33 :: HP.blk b (tcs seed bm S).toArray 58 :: L) → (Instr.lookup 54 (.map (some bm)) (⟨x, 2, sp, gl, lf⟩ : E).key.enc true).run Try.prog w_ = .ok (.tuple #[.int .i64 (n : Nat), .bool true]) w_ at hlk
      have hn8 := (place_some hp).1
      go_wp2
      refine wp_region_F (fun w_ => Heap w0 w_ (HP.blk w.heap.size #[.int .u64 x, .int .i64 2, .int .u64 sp, .bool gl, .int .u64 lf] 33 :: HP.blk b (tcs seed bm S).toArray 58 :: HP.mp K.enc K.ok bm (plF S) :: L)) GN (fun k_ v_ w_ => match k_ with
          | 0 => v_ = .pointer (some ⟨b, 0, none⟩)
          | 1 => v_ = .pointer (some ⟨b, 0, none⟩)
          | 2 => v_ = .pointer (some ⟨b, 1, none⟩)
          | 3 => v_ = .map (some bm)
          | 4 => v_ = .agg #[.int .u64 x, .int .i64 2, .int .u64 sp, .bool gl, .int .u64 lf]
          | 5 => v_ = (⟨x, 2, sp, gl, lf⟩ : E).key.enc
          | 6 => v_ = .tuple #[.int .i64 (n : Nat), .bool true]
          | 7 => v_ = .tuple #[.int .i64 (n : Nat), .bool true]
          | 8 => v_ = .int .i64 (n : Nat)
          | 9 => v_ = .bool true
          | 10 => v_ = .int .i64 (n : Nat)
          | _ => v_ = .bool true) fol (by kernel_rfl) ?_ ?_ ?_ ?_
      · exact J1.drew
      · intro k_ v_ w_ w2_ h1 hg
        split at h1 <;> exact h1
      · intro vals
        show wpG _ _ _ _ _ _ 0 (_ :: _) _
        refine wpG_cons (gval (.pointer (some ⟨b, 0, none⟩)) GN.refl fun w_ hJ hd => ?_) ?_
        · exact ⟨by kernel_rfl, by kernel_rfl, rfl⟩
        refine wpG_cons (gval (.pointer (some ⟨b, 0, none⟩)) GN.refl fun w_ hJ hd => ?_) ?_
        · have e0 : vals 0 = _ := hd 0 (by decide) (by kernel_rfl)
          rw [e0]
          exact ⟨by kernel_rfl, by kernel_rfl, rfl⟩
        refine wpG_cons (gval (.pointer (some ⟨b, 1, none⟩)) GN.refl fun w_ hJ hd => ?_) ?_
        · have e1 : vals 1 = _ := hd 1 (by decide) (by kernel_rfl)
          rw [e1]
          exact ⟨by kernel_rfl, by kernel_rfl, rfl⟩
        refine wpG_cons (gop (Instr.loadAt 54 (.pointer (some ⟨b, 1, none⟩))) (.map (some bm)) GN.refl fun w_ hJ hd => ?_) ?_
        · have e2 : vals 2 = _ := hd 2 (by decide) (by kernel_rfl)
          rw [e2]
          exact ⟨by kernel_rfl, by kernel_rfl, run_load1 (by kernel_rfl) (tcs_map hJ.f2.heap), rfl⟩
        refine wpG_cons (gop (Instr.loadAt 33 (.pointer (some ⟨w.heap.size, 0, none⟩))) (.agg #[.int .u64 x, .int .i64 2, .int .u64 sp, .bool gl, .int .u64 lf]) GN.refl fun w_ hJ hd => ?_) ?_
        · exact ⟨by kernel_rfl, by kernel_rfl, load_box hJ.heap, rfl⟩
        refine wpG_cons (gcall 24 #[.agg #[.int .u64 x, .int .i64 2, .int .u64 sp, .bool gl, .int .u64 lf]] fun w_ hJ hd => ?_) ?_
        · have e4 : vals 4 = _ := hd 4 (by decide) (by kernel_rfl)
          rw [e4]
          exact ⟨by kernel_rfl, by kernel_rfl, (key_any (⟨x, 2, sp, gl, lf⟩ : E) w_).mono fun _ w' ⟨hr, hg⟩ => ⟨_, hr, hJ.grown hg, hg, rfl⟩⟩
        refine wpG_cons (gop (Instr.lookup 54 (.map (some bm)) (⟨x, 2, sp, gl, lf⟩ : E).key.enc true) (.tuple #[.int .i64 (n : Nat), .bool true]) GN.refl fun w_ hJ hd => ?_) ?_
        · have e3 : vals 3 = _ := hd 3 (by decide) (by kernel_rfl)
          have e5 : vals 5 = _ := hd 5 (by decide) (by kernel_rfl)
          rw [e3, e5]
          exact ⟨by kernel_rfl, by kernel_rfl, hlk w_ hJ.f3, rfl⟩
        refine wpG_cons (gval (.tuple #[.int .i64 (n : Nat), .bool true]) GN.refl fun w_ hJ hd => ?_) ?_
        · have e6 : vals 6 = _ := hd 6 (by decide) (by kernel_rfl)
          rw [e6]
          exact ⟨by kernel_rfl, by kernel_rfl, rfl⟩
        refine wpG_cons (gval (.int .i64 (n : Nat)) GN.refl fun w_ hJ hd => ?_) ?_
        · have e7 : vals 7 = _ := hd 7 (by decide) (by kernel_rfl)
          rw [e7]
          exact ⟨by kernel_rfl, by kernel_rfl, rfl⟩
        refine wpG_cons (gval (.bool true) GN.refl fun w_ hJ hd => ?_) ?_
        · have e7 : vals 7 = _ := hd 7 (by decide) (by kernel_rfl)
          rw [e7]
          exact ⟨by kernel_rfl, by kernel_rfl, rfl⟩
        refine wpG_cons (gval (.int .i64 (n : Nat)) GN.refl fun w_ hJ hd => ?_) ?_
        · have e8 : vals 8 = _ := hd 8 (by decide) (by kernel_rfl)
          rw [e8]
          exact ⟨by kernel_rfl, by kernel_rfl, rfl⟩
        refine wpG_cons (gval (.bool true) GN.refl fun w_ hJ hd => ?_) wpG_nil
        · have e9 : vals 9 = _ := hd 9 (by decide) (by kernel_rfl)
          rw [e9]
          exact ⟨by kernel_rfl, by kernel_rfl, rfl⟩
      · intro vals w_ hJ hf
        have e0 : vals 0 = _ := hf 0 (by decide)
        have e1 : vals 1 = _ := hf 1 (by decide)
        have e2 : vals 2 = _ := hf 2 (by decide)
        have e3 : vals 3 = _ := hf 3 (by decide)
        have e4 : vals 4 = _ := hf 4 (by decide)
        have e5 : vals 5 = _ := hf 5 (by decide)
        have e6 : vals 6 = _ := hf 6 (by decide)
        have e7 : vals 7 = _ := hf 7 (by decide)
        have e8 : vals 8 = _ := hf 8 (by decide)
        have e9 : vals 9 = _ := hf 9 (by decide)
        have e10 : vals 10 = _ := hf 10 (by decide)
        have e11 : vals 11 = _ := hf 11 (by decide)
        simp only [fillG, Nat.zero_add, Nat.reduceAdd, e0, e1, e2, e3, e4, e5, e6, e7, e8, e9, e10, e11, Act.put, List.setIfInBounds_toArray, List.set_cons_succ, List.set_cons_zero]
        clear e0 e1 e2 e3 e4 e5 e6 e7 e8 e9 e10 e11 hf
        clear hlk J1
        go_wp2
        have hst : ∀ w_, (Heap w0 w_ (HP.blk w.heap.size #[.int .u64 x, .int .i64 2, .int .u64 sp, .bool gl, .int .u64 lf] 33 :: HP.blk b (tcs seed bm S).toArray 58 :: HP.mp K.enc K.ok bm (plF S) :: L) ∨ Heap w0 w_ (HP.blk w.heap.size #[.int .u64 x, .int .i64 2, .int .u64 sp, .bool gl, .int .u64 lf] 33 :: HP.blk b (setL (tcs seed bm S) (2 + n * 5) (⟨x, 2, sp, gl, lf⟩ : E).cs).toArray 58 :: HP.mp K.enc K.ok bm (plF S) :: L)) → (Instr.storeAt 33 (.pointer (some ⟨b, 2 + n * 5, none⟩)) (.agg #[.int .u64 x, .int .i64 2, .int .u64 sp, .bool gl, .int .u64 lf])).run Try.prog w_ = .ok () (w_.setCells b (2 + n * 5) (⟨x, 2, sp, gl, lf⟩ : E).cs) ∧ Heap w0 (w_.setCells b (2 + n * 5) (⟨x, 2, sp, gl, lf⟩ : E).cs) (HP.blk w.heap.size #[.int .u64 x, .int .i64 2, .int .u64 sp, .bool gl, .int .u64 lf] 33 :: HP.blk b (setL (tcs seed bm S) (2 + n * 5) (⟨x, 2, sp, gl, lf⟩ : E).cs).toArray 58 :: HP.mp K.enc K.ok bm (plF S) :: L) := by
          intro w_ hJ
          rcases hJ with hJ | hJ
          · exact ⟨run_storeAt_mid w_ b _ 33 #[.int .u64 x, .int .i64 2, .int .u64 sp, .bool gl, .int .u64 lf] (there_blk hJ.f2.heap (by simp [tcs]; omega)) (by kernel_rfl) (by kernel_rfl), (hJ.f2.sets _ _).f2⟩
          · have h3 := (hJ.f2.sets (⟨x, 2, sp, gl, lf⟩ : E).cs (2 + n * 5)).f2
            rw [setL_idem _ _ _ (by simp [tcs, E.cs]; omega)] at h3
            exact ⟨run_storeAt_mid w_ b _ 33 #[.int .u64 x, .int .i64 2, .int .u64 sp, .bool gl, .int .u64 lf] (there_blk hJ.f2.heap (by simp [setL_len, tcs]; omega)) (by kernel_rfl) (by kernel_rfl), h3⟩
        refine wp_region_E (fun w_ => Heap w0 w_ (HP.blk w.heap.size #[.int .u64 x, .int .i64 2, .int .u64 sp, .bool gl, .int .u64 lf] 33 :: HP.blk b (tcs seed bm S).toArray 58 :: HP.mp K.enc K.ok bm (plF S) :: L) ∨ Heap w0 w_ (HP.blk w.heap.size #[.int .u64 x, .int .i64 2, .int .u64 sp, .bool gl, .int .u64 lf] 33 :: HP.blk b (setL (tcs seed bm S) (2 + n * 5) (⟨x, 2, sp, gl, lf⟩ : E).cs).toArray 58 :: HP.mp K.enc K.ok bm (plF S) :: L)) (fun x_ y_ => (Heap w0 x_ (HP.blk w.heap.size #[.int .u64 x, .int .i64 2, .int .u64 sp, .bool gl, .int .u64 lf] 33 :: HP.blk b (setL (tcs seed bm S) (2 + n * 5) (⟨x, 2, sp, gl, lf⟩ : E).cs).toArray 58 :: HP.mp K.enc K.ok bm (plF S) :: L) → Heap w0 y_ (HP.blk w.heap.size #[.int .u64 x, .int .i64 2, .int .u64 sp, .bool gl, .int .u64 lf] 33 :: HP.blk b (setL (tcs seed bm S) (2 + n * 5) (⟨x, 2, sp, gl, lf⟩ : E).cs).toArray 58 :: HP.mp K.enc K.ok bm (plF S) :: L))) (fun k_ v_ w_ => match k_ with
            | 0 => v_ = .pointer (some ⟨b, 0, none⟩)
            | 1 => v_ = .int .i64 (n : Nat)
            | 2 => v_ = .pointer (some ⟨b, 0, none⟩)
            | 3 => v_ = .int .i64 (n : Nat)
            | 4 => v_ = .agg #[.int .u64 x, .int .i64 2, .int .u64 sp, .bool gl, .int .u64 lf]
            | 5 => v_ = .pointer (some ⟨b, 0, none⟩)
            | 6 => v_ = .pointer (some ⟨b, 2, none⟩)
            | 7 => v_ = .pointer (some ⟨b, 2 + n * 5, none⟩)
            | 8 => Heap w0 w_ (HP.blk w.heap.size #[.int .u64 x, .int .i64 2, .int .u64 sp, .bool gl, .int .u64 lf] 33 :: HP.blk b (setL (tcs seed bm S) (2 + n * 5) (⟨x, 2, sp, gl, lf⟩ : E).cs).toArray 58 :: HP.mp K.enc K.ok bm (plF S) :: L)
            | 9 => v_ = .pointer (some ⟨b, 0, none⟩)
            | 10 => v_ = .pointer (some ⟨b, 42, none⟩)
            | _ => v_ = .pointer (some ⟨b, 42 + n, none⟩)) fol (by kernel_rfl) ?_ ?_ (n := 12) rfl rfl rfl (by kernel_rfl) ?_ ?_
        · exact .inl hJ.drew
        · intro k_ v_ w_ w2_ h1 hg
          split at h1 <;> first | exact h1 | exact hg h1
        · intro vals
          show wpG _ _ _ _ _ _ 0 (_ :: _) _
          refine wpG_cons (gval (.pointer (some ⟨b, 0, none⟩)) (fun _ h => h) fun w_ hJ hd => ?_) ?_
          · exact ⟨by kernel_rfl, by kernel_rfl, rfl⟩
          refine wpG_cons (gval (.int .i64 (n : Nat)) (fun _ h => h) fun w_ hJ hd => ?_) ?_
          · exact ⟨by kernel_rfl, by kernel_rfl, rfl⟩
          refine wpG_cons (gval (.pointer (some ⟨b, 0, none⟩)) (fun _ h => h) fun w_ hJ hd => ?_) ?_
          · exact ⟨by kernel_rfl, by kernel_rfl, rfl⟩
          refine wpG_cons (gval (.int .i64 (n : Nat)) (fun _ h => h) fun w_ hJ hd => ?_) ?_
          · exact ⟨by kernel_rfl, by kernel_rfl, rfl⟩
          refine wpG_cons (gop (Instr.loadAt 33 (.pointer (some ⟨w.heap.size, 0, none⟩))) (.agg #[.int .u64 x, .int .i64 2, .int .u64 sp, .bool gl, .int .u64 lf]) (fun _ h => h) fun w_ hJ hd => ?_) ?_
          · exact ⟨by kernel_rfl, by kernel_rfl, load_box (hJ.elim (fun h => h.heap) (fun h => h.heap)), rfl⟩
          refine wpG_cons (gval (.pointer (some ⟨b, 0, none⟩)) (fun _ h => h) fun w_ hJ hd => ?_) ?_
          · have e0 : vals 0 = _ := hd 0 (by decide) (by kernel_rfl)
            rw [e0]
            exact ⟨by kernel_rfl, by kernel_rfl, rfl⟩
          refine wpG_cons (gval (.pointer (some ⟨b, 2, none⟩)) (fun _ h => h) fun w_ hJ hd => ?_) ?_
          · have e5 : vals 5 = _ := hd 5 (by decide) (by kernel_rfl)
            rw [e5]
            exact ⟨by kernel_rfl, by kernel_rfl, rfl⟩
          refine wpG_cons (gop (Instr.indexAt 55 (.pointer (some ⟨b, 2, none⟩)) (.int .i64 (n : Nat))) (.pointer (some ⟨b, 2 + n * 5, none⟩)) (fun _ h => h) fun w_ hJ hd => ?_) ?_
          · have e6 : vals 6 = _ := hd 6 (by decide) (by kernel_rfl)
            have e1 : vals 1 = _ := hd 1 (by decide) (by kernel_rfl)
            rw [e6, e1]
            exact ⟨by kernel_rfl, by kernel_rfl, run_ixa b 2 _ hn8 w_, rfl⟩
          refine wpG_cons (gunit fun w_ hJ hd => ?_) ?_
          · have e7 : vals 7 = _ := hd 7 (by decide) (by kernel_rfl)
            have e4 : vals 4 = _ := hd 4 (by decide) (by kernel_rfl)
            rw [e7, e4]
            have hS := hst w_ hJ
            exact ⟨by kernel_rfl, _, Eq.trans (b := Sem.run Try.prog (do Instr.storeAt 33 (.pointer (some ⟨b, 2 + n * 5, none⟩)) (.agg #[.int .u64 x, .int .i64 2, .int .u64 sp, .bool gl, .int .u64 lf]); pure Next.skip : Sem Next) w_) (by kernel_rfl) (run_unit (hS.1)), .inr hS.2, fun _ => hS.2, hS.2⟩
          refine wpG_cons (gval (.pointer (some ⟨b, 0, none⟩)) (fun _ h => h) fun w_ hJ hd => ?_) ?_
          · have e2 : vals 2 = _ := hd 2 (by decide) (by kernel_rfl)
            rw [e2]
            exact ⟨by kernel_rfl, by kernel_rfl, rfl⟩
          refine wpG_cons (gval (.pointer (some ⟨b, 42, none⟩)) (fun _ h => h) fun w_ hJ hd => ?_) ?_
          · have e9 : vals 9 = _ := hd 9 (by decide) (by kernel_rfl)
            rw [e9]
            exact ⟨by kernel_rfl, by kernel_rfl, rfl⟩
          refine wpG_cons (gop (Instr.indexAt 56 (.pointer (some ⟨b, 42, none⟩)) (.int .i64 (n : Nat))) (.pointer (some ⟨b, 42 + n, none⟩)) (fun _ h => h) fun w_ hJ hd => ?_) wpG_nil
          · have e10 : vals 10 = _ := hd 10 (by decide) (by kernel_rfl)
            have e3 : vals 3 = _ := hd 3 (by decide) (by kernel_rfl)
            rw [e10, e3]
            exact ⟨by kernel_rfl, by kernel_rfl, run_ixb b 42 _ hn8 w_, rfl⟩
        · intro vals w_ hJ hf
          have e0 : vals 0 = _ := hf 0 (by decide)
          have e1 : vals 1 = _ := hf 1 (by decide)
          have e2 : vals 2 = _ := hf 2 (by decide)
          have e3 : vals 3 = _ := hf 3 (by decide)
          have e4 : vals 4 = _ := hf 4 (by decide)
          have e5 : vals 5 = _ := hf 5 (by decide)
          have e6 : vals 6 = _ := hf 6 (by decide)
          have e7 : vals 7 = _ := hf 7 (by decide)
          have e9 : vals 9 = _ := hf 9 (by decide)
          have e10 : vals 10 = _ := hf 10 (by decide)
          have e11 : vals 11 = _ := hf 11 (by decide)
          have e8 : Heap w0 w_ (HP.blk w.heap.size #[.int .u64 x, .int .i64 2, .int .u64 sp, .bool gl, .int .u64 lf] 33 :: HP.blk b (setL (tcs seed bm S) (2 + n * 5) (⟨x, 2, sp, gl, lf⟩ : E).cs).toArray 58 :: HP.mp K.enc K.ok bm (plF S) :: L) := hf 8 (by decide)
          show Oper.wp _ _ (fillG vals 0 (_ :: _ :: _ :: _ :: _ :: _ :: _ :: _ :: _ :: _ :: _ :: _ :: []) _) _ _ _
          simp only [fillG, Nat.zero_add, Nat.reduceAdd, e0, e1, e2, e3, e4, e5, e6, e7, e9, e10, e11, Act.put, List.setIfInBounds_toArray, List.set_cons_succ, List.set_cons_zero]
          clear e0 e1 e2 e3 e4 e5 e6 e7 e9 e10 e11 hf
          generalize vals 8 = v8 at *
          have hfc := there_blk (n := 1) (o := 42 + n) e8.f2.heap (by simp [setL_len, tcs]; omega)
          obtain ⟨hc1, hc2⟩ := hfc 0 (by omega)
          obtain ⟨u, hu⟩ := Option.isSome_iff_exists.1 hc1
          refine wp_last_skip (w' := w_.setCell ⟨b, 42 + n, none⟩ (.bool true)) (m := Instr.storeAt 4 (.pointer (some ⟨b, 42 + n, none⟩)) (.bool true)) (by kernel_rfl) (run_store1 (by kernel_rfl) rfl rfl hu hc2) ?_
          show Exit.then _ _ Exit.normal (Act.put ⟨_, _⟩ none _) _
          simp only [Act.put]
          clear hst
          have hfin := e8.f2.setl (42 + n) (.bool true)
          have hput := tcs_put seed bm S n hn8 (some (⟨x, 2, sp, gl, lf⟩ : E))
          simp only [Option.getD_some, Option.isSome_some] at hput
          rw [hput] at hfin
          clear e8 hput hu hc1 hc2
          go_wp2
          go_ret
          refine ⟨rfl, Heap.tl.2 ⟨bm, ⟨?_, ?_⟩, ?_⟩⟩
          · rw [hps hp]; exact (place_put_same hI hok hp (⟨x, 2, sp, gl, lf⟩ : E).key).1
          · rw [hpseed hp]; exact hsd
          · rw [hps hp, hpseed hp, plF_put_same hI hok hp]
            exact hfin.f2.tail
    | none =>
      rw [hp] at hlk
      change ∀ w_, Heap w0 w_ (HP.mp K.enc K.ok bm (plF S) :: HP.blk w.heap.size #[.int .u64 x, .int .i64 2, .int .u64 sp, .bool gl, .int .u64 lf] 33 :: HP.blk b (tcs seed bm S).toArray 58 :: L) → (Instr.lookup 54 (.map (some bm)) (⟨x, 2, sp, gl, lf⟩ : E).key.enc true).run Try.prog w_ = .ok (.tuple #[.int .i64 0, .bool false]) w_ at hlk
      have hn8 := slot_lt S seed
      go_wp2
      refine wp_region_F (fun w_ => Heap w0 w_ (HP.blk w.heap.size #[.int .u64 x, .int .i64 2, .int .u64 sp, .bool gl, .int .u64 lf] 33 :: HP.blk b (tcs seed bm S).toArray 58 :: HP.mp K.enc K.ok bm (plF S) :: L)) GN (fun k_ v_ w_ => match k_ with
          | 0 => v_ = .pointer (some ⟨b, 0, none⟩)
          | 1 => v_ = .pointer (some ⟨b, 0, none⟩)
          | 2 => v_ = .pointer (some ⟨b, 1, none⟩)
          | 3 => v_ = .map (some bm)
          | 4 => v_ = .agg #[.int .u64 x, .int .i64 2, .int .u64 sp, .bool gl, .int .u64 lf]
          | 5 => v_ = (⟨x, 2, sp, gl, lf⟩ : E).key.enc
          | 6 => v_ = .tuple #[.int .i64 0, .bool false]
          | 7 => v_ = .tuple #[.int .i64 0, .bool false]
          | 8 => v_ = .int .i64 0
          | 9 => v_ = .bool false
          | 10 => v_ = .int .i64 0
          | _ => v_ = .bool false) fol (by kernel_rfl) ?_ ?_ ?_ ?_
      · exact J1.drew
      · intro k_ v_ w_ w2_ h1 hg
        split at h1 <;> exact h1
      · intro vals
        show wpG _ _ _ _ _ _ 0 (_ :: _) _
        refine wpG_cons (gval (.pointer (some ⟨b, 0, none⟩)) GN.refl fun w_ hJ hd => ?_) ?_
        · exact ⟨by kernel_rfl, by kernel_rfl, rfl⟩
        refine wpG_cons (gval (.pointer (some ⟨b, 0, none⟩)) GN.refl fun w_ hJ hd => ?_) ?_
        · have e0 : vals 0 = _ := hd 0 (by decide) (by kernel_rfl)
          rw [e0]
          exact ⟨by kernel_rfl, by kernel_rfl, rfl⟩
        refine wpG_cons (gval (.pointer (some ⟨b, 1, none⟩)) GN.refl fun w_ hJ hd => ?_) ?_
        · have e1 : vals 1 = _ := hd 1 (by decide) (by kernel_rfl)
          rw [e1]
          exact ⟨by kernel_rfl, by kernel_rfl, rfl⟩
        refine wpG_cons (gop (Instr.loadAt 54 (.pointer (some ⟨b, 1, none⟩))) (.map (some bm)) GN.refl fun w_ hJ hd => ?_) ?_
        · have e2 : vals 2 = _ := hd 2 (by decide) (by kernel_rfl)
          rw [e2]
          exact ⟨by kernel_rfl, by kernel_rfl, run_load1 (by kernel_rfl) (tcs_map hJ.f2.heap), rfl⟩
        refine wpG_cons (gop (Instr.loadAt 33 (.pointer (some ⟨w.heap.size, 0, none⟩))) (.agg #[.int .u64 x, .int .i64 2, .int .u64 sp, .bool gl, .int .u64 lf]) GN.refl fun w_ hJ hd => ?_) ?_
        · exact ⟨by kernel_rfl, by kernel_rfl, load_box hJ.heap, rfl⟩
        refine wpG_cons (gcall 24 #[.agg #[.int .u64 x, .int .i64 2, .int .u64 sp, .bool gl, .int .u64 lf]] fun w_ hJ hd => ?_) ?_
        · have e4 : vals 4 = _ := hd 4 (by decide) (by kernel_rfl)
          rw [e4]
          exact ⟨by kernel_rfl, by kernel_rfl, (key_any (⟨x, 2, sp, gl, lf⟩ : E) w_).mono fun _ w' ⟨hr, hg⟩ => ⟨_, hr, hJ.grown hg, hg, rfl⟩⟩
        refine wpG_cons (gop (Instr.lookup 54 (.map (some bm)) (⟨x, 2, sp, gl, lf⟩ : E).key.enc true) (.tuple #[.int .i64 0, .bool false]) GN.refl fun w_ hJ hd => ?_) ?_
        · have e3 : vals 3 = _ := hd 3 (by decide) (by kernel_rfl)
          have e5 : vals 5 = _ := hd 5 (by decide) (by kernel_rfl)
          rw [e3, e5]
          exact ⟨by kernel_rfl, by kernel_rfl, hlk w_ hJ.f3, rfl⟩
        refine wpG_cons (gval (.tuple #[.int .i64 0, .bool false]) GN.refl fun w_ hJ hd => ?_) ?_
        · have e6 : vals 6 = _ := hd 6 (by decide) (by kernel_rfl)
          rw [e6]
          exact ⟨by kernel_rfl, by kernel_rfl, rfl⟩
        refine wpG_cons (gval (.int .i64 0) GN.refl fun w_ hJ hd => ?_) ?_
        · have e7 : vals 7 = _ := hd 7 (by decide) (by kernel_rfl)
          rw [e7]
          exact ⟨by kernel_rfl, by kernel_rfl, rfl⟩
        refine wpG_cons (gval (.bool false) GN.refl fun w_ hJ hd => ?_) ?_
        · have e7 : vals 7 = _ := hd 7 (by decide) (by kernel_rfl)
          rw [e7]
          exact ⟨by kernel_rfl, by kernel_rfl, rfl⟩
        refine wpG_cons (gval (.int .i64 0) GN.refl fun w_ hJ hd => ?_) ?_
        · have e8 : vals 8 = _ := hd 8 (by decide) (by kernel_rfl)
          rw [e8]
          exact ⟨by kernel_rfl, by kernel_rfl, rfl⟩
        refine wpG_cons (gval (.bool false) GN.refl fun w_ hJ hd => ?_) wpG_nil
        · have e9 : vals 9 = _ := hd 9 (by decide) (by kernel_rfl)
          rw [e9]
          exact ⟨by kernel_rfl, by kernel_rfl, rfl⟩
      · intro vals w_ hJ hf
        have e0 : vals 0 = _ := hf 0 (by decide)
        have e1 : vals 1 = _ := hf 1 (by decide)
        have e2 : vals 2 = _ := hf 2 (by decide)
        have e3 : vals 3 = _ := hf 3 (by decide)
        have e4 : vals 4 = _ := hf 4 (by decide)
        have e5 : vals 5 = _ := hf 5 (by decide)
        have e6 : vals 6 = _ := hf 6 (by decide)
        have e7 : vals 7 = _ := hf 7 (by decide)
        have e8 : vals 8 = _ := hf 8 (by decide)
        have e9 : vals 9 = _ := hf 9 (by decide)
        have e10 : vals 10 = _ := hf 10 (by decide)
        have e11 : vals 11 = _ := hf 11 (by decide)
        simp only [fillG, Nat.zero_add, Nat.reduceAdd, e0, e1, e2, e3, e4, e5, e6, e7, e8, e9, e10, e11, Act.put, List.setIfInBounds_toArray, List.set_cons_succ, List.set_cons_zero]
        clear e0 e1 e2 e3 e4 e5 e6 e7 e8 e9 e10 e11 hf
        clear hlk J1
        go_wp2_with fail
        refine (free_h (hJ.b3) hI).mono ?_
        rintro r w4 ⟨rfl, hJ3⟩
        have J2 := hJ3.f3
        clear hJ hJ3
        go_wp2
        refine wp_region_E (fun w_ => Heap w0 w_ (HP.blk w.heap.size #[.int .u64 x, .int .i64 2, .int .u64 sp, .bool gl, .int .u64 lf] 33 :: HP.blk b (tcs (slotSeed S seed) bm S).toArray 58 :: HP.mp K.enc K.ok bm (plF (put S (slot S seed) none)) :: L)) GN (fun k_ v_ w_ => match k_ with
            | 0 => v_ = .pointer (some ⟨b, 0, none⟩)
            | 1 => v_ = .pointer (some ⟨b, 0, none⟩)
            | 2 => v_ = .pointer (some ⟨b, 1, none⟩)
            | 3 => v_ = .map (some bm)
            | 4 => v_ = .agg #[.int .u64 x, .int .i64 2, .int .u64 sp, .bool gl, .int .u64 lf]
            | 5 => v_ = (⟨x, 2, sp, gl, lf⟩ : E).key.enc
            | _ => v_ = .int .i64 (slot S seed : Nat)) fol (by kernel_rfl) ?_ ?_ (n := 7) rfl rfl rfl (by kernel_rfl) ?_ ?_
        · exact J2.drew
        · intro k_ v_ w_ w2_ h1 hg
          split at h1 <;> exact h1
        · intro vals
          show wpG _ _ _ _ _ _ 0 (_ :: _) _
          refine wpG_cons (gval (.pointer (some ⟨b, 0, none⟩)) GN.refl fun w_ hJ hd => ?_) ?_
          · exact ⟨by kernel_rfl, by kernel_rfl, rfl⟩
          refine wpG_cons (gval (.pointer (some ⟨b, 0, none⟩)) GN.refl fun w_ hJ hd => ?_) ?_
          · have e0 : vals 0 = _ := hd 0 (by decide) (by kernel_rfl)
            rw [e0]
            exact ⟨by kernel_rfl, by kernel_rfl, rfl⟩
          refine wpG_cons (gval (.pointer (some ⟨b, 1, none⟩)) GN.refl fun w_ hJ hd => ?_) ?_
          · have e1 : vals 1 = _ := hd 1 (by decide) (by kernel_rfl)
            rw [e1]
            exact ⟨by kernel_rfl, by kernel_rfl, rfl⟩
          refine wpG_cons (gop (Instr.loadAt 54 (.pointer (some ⟨b, 1, none⟩))) (.map (some bm)) GN.refl fun w_ hJ hd => ?_) ?_
          · have e2 : vals 2 = _ := hd 2 (by decide) (by kernel_rfl)
            rw [e2]
            exact ⟨by kernel_rfl, by kernel_rfl, run_load1 (by kernel_rfl) (tcs_map hJ.f2.heap), rfl⟩
          refine wpG_cons (gop (Instr.loadAt 33 (.pointer (some ⟨w.heap.size, 0, none⟩))) (.agg #[.int .u64 x, .int .i64 2, .int .u64 sp, .bool gl, .int .u64 lf]) GN.refl fun w_ hJ hd => ?_) ?_
          · exact ⟨by kernel_rfl, by kernel_rfl, load_box hJ.heap, rfl⟩
          refine wpG_cons (gcall 24 #[.agg #[.int .u64 x, .int .i64 2, .int .u64 sp, .bool gl, .int .u64 lf]] fun w_ hJ hd => ?_) ?_
          · have e4 : vals 4 = _ := hd 4 (by decide) (by kernel_rfl)
            rw [e4]
            exact ⟨by kernel_rfl, by kernel_rfl, (key_any (⟨x, 2, sp, gl, lf⟩ : E) w_).mono fun _ w' ⟨hr, hg⟩ => ⟨_, hr, hJ.grown hg, hg, rfl⟩⟩
          refine wpG_cons (gval (.int .i64 (slot S seed : Nat)) GN.refl fun w_ hJ hd => ?_) wpG_nil
          · exact ⟨by kernel_rfl, by kernel_rfl, rfl⟩
        · intro vals w_ hJ hf
          have e0 : vals 0 = _ := hf 0 (by decide)
          have e1 : vals 1 = _ := hf 1 (by decide)
          have e2 : vals 2 = _ := hf 2 (by decide)
          have e3 : vals 3 = _ := hf 3 (by decide)
          have e4 : vals 4 = _ := hf 4 (by decide)
          have e5 : vals 5 = _ := hf 5 (by decide)
          have e6 : vals 6 = _ := hf 6 (by decide)
          show Oper.wp _ _ (fillG vals 0 (_ :: _ :: _ :: _ :: _ :: _ :: _ :: []) _) _ _ _
          simp only [fillG, Nat.zero_add, Nat.reduceAdd, e0, e1, e2, e3, e4, e5, e6, Act.put, List.setIfInBounds_toArray, List.set_cons_succ, List.set_cons_zero]
          clear e0 e1 e2 e3 e4 e5 e6 hf
          obtain ⟨w6, hr6, hJ6, _⟩ := hJ.f3.mpStore keyLaw (E.key_ok hok) (.int .i64 (slot S seed : Nat))
          have hJ6 := hJ6.b3
          refine wp_last_skip (w' := w6) (m := Instr.mapUpdate 54 (.map (some bm)) (⟨x, 2, sp, gl, lf⟩ : E).key.enc (.int .i64 (slot S seed : Nat))) (by kernel_rfl) hr6 ?_
          show Exit.then _ _ Exit.normal (Act.put ⟨_, _⟩ none _) _
          simp only [Act.put]
          clear hr6 hJ J2
          go_wp2
          have hst : ∀ w_, (Heap w0 w_ (HP.blk w.heap.size #[.int .u64 x, .int .i64 2, .int .u64 sp, .bool gl, .int .u64 lf] 33 :: HP.blk b (tcs (slotSeed S seed) bm S).toArray 58 :: HP.mp K.enc K.ok bm (fun k' => if k' = (⟨x, 2, sp, gl, lf⟩ : E).key then some (.int .i64 (slot S seed : Nat)) else plF (put S (slot S seed) none) k') :: L) ∨ Heap w0 w_ (HP.blk w.heap.size #[.int .u64 x, .int .i64 2, .int .u64 sp, .bool gl, .int .u64 lf] 33 :: HP.blk b (setL (tcs (slotSeed S seed) bm S) (2 + (slot S seed) * 5) (⟨x, 2, sp, gl, lf⟩ : E).cs).toArray 58 :: HP.mp K.enc K.ok bm (fun k' => if k' = (⟨x, 2, sp, gl, lf⟩ : E).key then some (.int .i64 (slot S seed : Nat)) else plF (put S (slot S seed) none) k') :: L)) → (Instr.storeAt 33 (.pointer (some ⟨b, 2 + (slot S seed) * 5, none⟩)) (.agg #[.int .u64 x, .int .i64 2, .int .u64 sp, .bool gl, .int .u64 lf])).run Try.prog w_ = .ok () (w_.setCells b (2 + (slot S seed) * 5) (⟨x, 2, sp, gl, lf⟩ : E).cs) ∧ Heap w0 (w_.setCells b (2 + (slot S seed) * 5) (⟨x, 2, sp, gl, lf⟩ : E).cs) (HP.blk w.heap.size #[.int .u64 x, .int .i64 2, .int .u64 sp, .bool gl, .int .u64 lf] 33 :: HP.blk b (setL (tcs (slotSeed S seed) bm S) (2 + (slot S seed) * 5) (⟨x, 2, sp, gl, lf⟩ : E).cs).toArray 58 :: HP.mp K.enc K.ok bm (fun k' => if k' = (⟨x, 2, sp, gl, lf⟩ : E).key then some (.int .i64 (slot S seed : Nat)) else plF (put S (slot S seed) none) k') :: L) := by
            intro w_ hJ
            rcases hJ with hJ | hJ
            · exact ⟨run_storeAt_mid w_ b _ 33 #[.int .u64 x, .int .i64 2, .int .u64 sp, .bool gl, .int .u64 lf] (there_blk hJ.f2.heap (by simp [tcs]; omega)) (by kernel_rfl) (by kernel_rfl), (hJ.f2.sets _ _).f2⟩
            · have h3 := (hJ.f2.sets (⟨x, 2, sp, gl, lf⟩ : E).cs (2 + (slot S seed) * 5)).f2
              rw [setL_idem _ _ _ (by simp [tcs, E.cs]; omega)] at h3
              exact ⟨run_storeAt_mid w_ b _ 33 #[.int .u64 x, .int .i64 2, .int .u64 sp, .bool gl, .int .u64 lf] (there_blk hJ.f2.heap (by simp [setL_len, tcs]; omega)) (by kernel_rfl) (by kernel_rfl), h3⟩
          refine wp_region_E (fun w_ => Heap w0 w_ (HP.blk w.heap.size #[.int .u64 x, .int .i64 2, .int .u64 sp, .bool gl, .int .u64 lf] 33 :: HP.blk b (tcs (slotSeed S seed) bm S).toArray 58 :: HP.mp K.enc K.ok bm (fun k' => if k' = (⟨x, 2, sp, gl, lf⟩ : E).key then some (.int .i64 (slot S seed : Nat)) else plF (put S (slot S seed) none) k') :: L) ∨ Heap w0 w_ (HP.blk w.heap.size #[.int .u64 x, .int .i64 2, .int .u64 sp, .bool gl, .int .u64 lf] 33 :: HP.blk b (setL (tcs (slotSeed S seed) bm S) (2 + (slot S seed) * 5) (⟨x, 2, sp, gl, lf⟩ : E).cs).toArray 58 :: HP.mp K.enc K.ok bm (fun k' => if k' = (⟨x, 2, sp, gl, lf⟩ : E).key then some (.int .i64 (slot S seed : Nat)) else plF (put S (slot S seed) none) k') :: L)) (fun x_ y_ => (Heap w0 x_ (HP.blk w.heap.size #[.int .u64 x, .int .i64 2, .int .u64 sp, .bool gl, .int .u64 lf] 33 :: HP.blk b (setL (tcs (slotSeed S seed) bm S) (2 + (slot S seed) * 5) (⟨x, 2, sp, gl, lf⟩ : E).cs).toArray 58 :: HP.mp K.enc K.ok bm (fun k' => if k' = (⟨x, 2, sp, gl, lf⟩ : E).key then some (.int .i64 (slot S seed : Nat)) else plF (put S (slot S seed) none) k') :: L) → Heap w0 y_ (HP.blk w.heap.size #[.int .u64 x, .int .i64 2, .int .u64 sp, .bool gl, .int .u64 lf] 33 :: HP.blk b (setL (tcs (slotSeed S seed) bm S) (2 + (slot S seed) * 5) (⟨x, 2, sp, gl, lf⟩ : E).cs).toArray 58 :: HP.mp K.enc K.ok bm (fun k' => if k' = (⟨x, 2, sp, gl, lf⟩ : E).key then some (.int .i64 (slot S seed : Nat)) else plF (put S (slot S seed) none) k') :: L))) (fun k_ v_ w_ => match k_ with
              | 0 => v_ = .pointer (some ⟨b, 0, none⟩)
              | 1 => v_ = .int .i64 ((slot S seed) : Nat)
              | 2 => v_ = .pointer (some ⟨b, 0, none⟩)
              | 3 => v_ = .int .i64 ((slot S seed) : Nat)
              | 4 => v_ = .agg #[.int .u64 x, .int .i64 2, .int .u64 sp, .bool gl, .int .u64 lf]
              | 5 => v_ = .pointer (some ⟨b, 0, none⟩)
              | 6 => v_ = .pointer (some ⟨b, 2, none⟩)
              | 7 => v_ = .pointer (some ⟨b, 2 + (slot S seed) * 5, none⟩)
              | 8 => Heap w0 w_ (HP.blk w.heap.size #[.int .u64 x, .int .i64 2, .int .u64 sp, .bool gl, .int .u64 lf] 33 :: HP.blk b (setL (tcs (slotSeed S seed) bm S) (2 + (slot S seed) * 5) (⟨x, 2, sp, gl, lf⟩ : E).cs).toArray 58 :: HP.mp K.enc K.ok bm (fun k' => if k' = (⟨x, 2, sp, gl, lf⟩ : E).key then some (.int .i64 (slot S seed : Nat)) else plF (put S (slot S seed) none) k') :: L)
              | 9 => v_ = .pointer (some ⟨b, 0, none⟩)
              | 10 => v_ = .pointer (some ⟨b, 42, none⟩)
              | _ => v_ = .pointer (some ⟨b, 42 + (slot S seed), none⟩)) fol (by kernel_rfl) ?_ ?_ (n := 12) rfl rfl rfl (by kernel_rfl) ?_ ?_
          · exact .inl hJ6.drew
          · intro k_ v_ w_ w2_ h1 hg
            split at h1 <;> first | exact h1 | exact hg h1
          · intro vals
            show wpG _ _ _ _ _ _ 0 (_ :: _) _
            refine wpG_cons (gval (.pointer (some ⟨b, 0, none⟩)) (fun _ h => h) fun w_ hJ hd => ?_) ?_
            · exact ⟨by kernel_rfl, by kernel_rfl, rfl⟩
            refine wpG_cons (gval (.int .i64 ((slot S seed) : Nat)) (fun _ h => h) fun w_ hJ hd => ?_) ?_
            · exact ⟨by kernel_rfl, by kernel_rfl, rfl⟩
            refine wpG_cons (gval (.pointer (some ⟨b, 0, none⟩)) (fun _ h => h) fun w_ hJ hd => ?_) ?_
            · exact ⟨by kernel_rfl, by kernel_rfl, rfl⟩
            refine wpG_cons (gval (.int .i64 ((slot S seed) : Nat)) (fun _ h => h) fun w_ hJ hd => ?_) ?_
            · exact ⟨by kernel_rfl, by kernel_rfl, rfl⟩
            refine wpG_cons (gop (Instr.loadAt 33 (.pointer (some ⟨w.heap.size, 0, none⟩))) (.agg #[.int .u64 x, .int .i64 2, .int .u64 sp, .bool gl, .int .u64 lf]) (fun _ h => h) fun w_ hJ hd => ?_) ?_
            · exact ⟨by kernel_rfl, by kernel_rfl, load_box (hJ.elim (fun h => h.heap) (fun h => h.heap)), rfl⟩
            refine wpG_cons (gval (.pointer (some ⟨b, 0, none⟩)) (fun _ h => h) fun w_ hJ hd => ?_) ?_
            · have e0 : vals 0 = _ := hd 0 (by decide) (by kernel_rfl)
              rw [e0]
              exact ⟨by kernel_rfl, by kernel_rfl, rfl⟩
            refine wpG_cons (gval (.pointer (some ⟨b, 2, none⟩)) (fun _ h => h) fun w_ hJ hd => ?_) ?_
            · have e5 : vals 5 = _ := hd 5 (by decide) (by kernel_rfl)
              rw [e5]
              exact ⟨by kernel_rfl, by kernel_rfl, rfl⟩
            refine wpG_cons (gop (Instr.indexAt 55 (.pointer (some ⟨b, 2, none⟩)) (.int .i64 ((slot S seed) : Nat))) (.pointer (some ⟨b, 2 + (slot S seed) * 5, none⟩)) (fun _ h => h) fun w_ hJ hd => ?_) ?_
            · have e6 : vals 6 = _ := hd 6 (by decide) (by kernel_rfl)
              have e1 : vals 1 = _ := hd 1 (by decide) (by kernel_rfl)
              rw [e6, e1]
              exact ⟨by kernel_rfl, by kernel_rfl, run_ixa b 2 _ hn8 w_, rfl⟩
            refine wpG_cons (gunit fun w_ hJ hd => ?_) ?_
            · have e7 : vals 7 = _ := hd 7 (by decide) (by kernel_rfl)
              have e4 : vals 4 = _ := hd 4 (by decide) (by kernel_rfl)
              rw [e7, e4]
              have hS := hst w_ hJ
              exact ⟨by kernel_rfl, _, Eq.trans (b := Sem.run Try.prog (do Instr.storeAt 33 (.pointer (some ⟨b, 2 + (slot S seed) * 5, none⟩)) (.agg #[.int .u64 x, .int .i64 2, .int .u64 sp, .bool gl, .int .u64 lf]); pure Next.skip : Sem Next) w_) (by kernel_rfl) (run_unit (hS.1)), .inr hS.2, fun _ => hS.2, hS.2⟩
            refine wpG_cons (gval (.pointer (some ⟨b, 0, none⟩)) (fun _ h => h) fun w_ hJ hd => ?_) ?_
            · have e2 : vals 2 = _ := hd 2 (by decide) (by kernel_rfl)
              rw [e2]
              exact ⟨by kernel_rfl, by kernel_rfl, rfl⟩
            refine wpG_cons (gval (.pointer (some ⟨b, 42, none⟩)) (fun _ h => h) fun w_ hJ hd => ?_) ?_
            · have e9 : vals 9 = _ := hd 9 (by decide) (by kernel_rfl)
              rw [e9]
              exact ⟨by kernel_rfl, by kernel_rfl, rfl⟩
            refine wpG_cons (gop (Instr.indexAt 56 (.pointer (some ⟨b, 42, none⟩)) (.int .i64 ((slot S seed) : Nat))) (.pointer (some ⟨b, 42 + (slot S seed), none⟩)) (fun _ h => h) fun w_ hJ hd => ?_) wpG_nil
            · have e10 : vals 10 = _ := hd 10 (by decide) (by kernel_rfl)
              have e3 : vals 3 = _ := hd 3 (by decide) (by kernel_rfl)
              rw [e10, e3]
              exact ⟨by kernel_rfl, by kernel_rfl, run_ixb b 42 _ hn8 w_, rfl⟩
          · intro vals w_ hJ hf
            have e0 : vals 0 = _ := hf 0 (by decide)
            have e1 : vals 1 = _ := hf 1 (by decide)
            have e2 : vals 2 = _ := hf 2 (by decide)
            have e3 : vals 3 = _ := hf 3 (by decide)
            have e4 : vals 4 = _ := hf 4 (by decide)
            have e5 : vals 5 = _ := hf 5 (by decide)
            have e6 : vals 6 = _ := hf 6 (by decide)
            have e7 : vals 7 = _ := hf 7 (by decide)
            have e9 : vals 9 = _ := hf 9 (by decide)
            have e10 : vals 10 = _ := hf 10 (by decide)
            have e11 : vals 11 = _ := hf 11 (by decide)
            have e8 : Heap w0 w_ (HP.blk w.heap.size #[.int .u64 x, .int .i64 2, .int .u64 sp, .bool gl, .int .u64 lf] 33 :: HP.blk b (setL (tcs (slotSeed S seed) bm S) (2 + (slot S seed) * 5) (⟨x, 2, sp, gl, lf⟩ : E).cs).toArray 58 :: HP.mp K.enc K.ok bm (fun k' => if k' = (⟨x, 2, sp, gl, lf⟩ : E).key then some (.int .i64 (slot S seed : Nat)) else plF (put S (slot S seed) none) k') :: L) := hf 8 (by decide)
            show Oper.wp _ _ (fillG vals 0 (_ :: _ :: _ :: _ :: _ :: _ :: _ :: _ :: _ :: _ :: _ :: _ :: []) _) _ _ _
            simp only [fillG, Nat.zero_add, Nat.reduceAdd, e0, e1, e2, e3, e4, e5, e6, e7, e9, e10, e11, Act.put, List.setIfInBounds_toArray, List.set_cons_succ, List.set_cons_zero]
            clear e0 e1 e2 e3 e4 e5 e6 e7 e9 e10 e11 hf
            generalize vals 8 = v8 at *
            have hfc := there_blk (n := 1) (o := 42 + (slot S seed)) e8.f2.heap (by simp [setL_len, tcs]; omega)
            obtain ⟨hc1, hc2⟩ := hfc 0 (by omega)
            obtain ⟨u, hu⟩ := Option.isSome_iff_exists.1 hc1
            refine wp_last_skip (w' := w_.setCell ⟨b, 42 + (slot S seed), none⟩ (.bool true)) (m := Instr.storeAt 4 (.pointer (some ⟨b, 42 + (slot S seed), none⟩)) (.bool true)) (by kernel_rfl) (run_store1 (by kernel_rfl) rfl rfl hu hc2) ?_
            show Exit.then _ _ Exit.normal (Act.put ⟨_, _⟩ none _) _
            simp only [Act.put]
            clear hst
            have hfin := e8.f2.setl (42 + (slot S seed)) (.bool true)
            have hput := tcs_put (slotSeed S seed) bm S (slot S seed) hn8 (some (⟨x, 2, sp, gl, lf⟩ : E))
            simp only [Option.getD_some, Option.isSome_some] at hput
            rw [hput] at hfin
            clear e8 hput hu hc1 hc2
            go_wp2
            go_ret
            refine ⟨rfl, Heap.tl.2 ⟨bm, ⟨?_, ?_⟩, ?_⟩⟩
            · rw [hps0 hp]; exact hI.put_some hok fun m f m8 _ hf => place_none hp m f m8 hf
            · rw [hpseed0 hp]; exact slotSeed_bd S hsd.1 hsd.2
            · rw [hps0 hp, hpseed0 hp, plF_put_new hI hn8 hok hp]
              exact hfin.f2.tail
theorem put_h (h : Heap w0 w (HP.tl b seed S :: L)) (hw : e.wf) :
    Calls Try.prog 11 #[.pointer (some ⟨b, 0, none⟩), .agg #[.int .u64 e.at_, .int .i64 e.lv, .int .u64 e.sp, .bool e.gl, .int .u64 e.lf]] w fun r w' => r = .returned (.bool (!bad e)) ∧ Heap w0 w' (HP.tl b (putSeed S seed e) (putS S seed e) :: L) := by
  cases hb : bad e with
  | true =>
    refine (put_bad hw hb).mono fun r w' ⟨hr, hg⟩ => ⟨hr, ?_⟩
    have e1 : putSeed S seed e = seed := by unfold putSeed; rw [hb]; rfl
    have e2 : putS S seed e = S := by unfold putS; rw [hb]; rfl
    rw [e1, e2]
    exact h.grown hg
  | false =>
    obtain ⟨bm, ⟨hI, hsd⟩, hh⟩ := Heap.tl.1 h
    exact put_ok hh hI hsd hw hb
end
end Go.Proofs.Ytlkkmpfhhfaioaa
