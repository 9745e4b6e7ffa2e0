/- Layer 23: Done. -/
import Derived.Test.YtdmkgomcomcfhaaQ11
namespace Go.Proofs.Ytdmkgomcomcfhaa
open Go.RowKit

def doneQ (q : Qs) (t : Int) : Bool × Qs :=
  if !(lookQ q t).2 || (lookQ q t).1.wait then (false, q) else match findN q.l t with
  | none => (false, q)
  | some n => match q.l[n]? with
    | none => (false, q)
    | some e => if e.read then (false, q) else (true, ⟨q.l.set n { e with read := true }, q.h⟩)
theorem look_some {q : Qs} {t : Int} (h : (lookQ q t).2 = true) : ∃ n e, findN q.l t = some n ∧ q.l[n]? = some e ∧ e.store = false ∧ e.placed = true := by
  unfold lookQ at h
  split at h
  · cases h
  · rename_i n hn
    split at h
    · cases h
    · rename_i e he
      split at h
      · cases h
      · rename_i hc
        simp only [Bool.or_eq_true, Bool.not_eq_true', not_or, Bool.not_eq_true, Bool.not_eq_false] at hc
        exact ⟨n, e, hn, he, hc.1, hc.2⟩
section
variable {w0 w : World} {L : List HP} {b : Nat} {q : Qs}
set_option maxRecDepth 100000 in
set_option maxHeartbeats 4000000 in
theorem done_h (h : Heap w0 w (HP.q b q :: L)) (tag : Int) :
    Calls Try.prog 22 #[ptr b, .int .i64 tag] w fun r w' => r = .returned (.bool (doneQ q tag).1) ∧ Heap w0 w' (HP.q b (doneQ q tag).2 :: L) := by
  have hcall := hide (look_h h tag)
  obtain ⟨R, hR2⟩ : ∃ R, doneQ q tag = R := ⟨_, rfl⟩
  rw [hR2]
  have hd : R = if !(lookQ q tag).2 || (lookQ q tag).1.wait then (false, q) else match findN q.l tag with
    | none => (false, q)
    | some n => match q.l[n]? with
      | none => (false, q)
      | some e => if e.read then (false, q) else (true, ⟨q.l.set n { e with read := true }, q.h⟩) := hR2.symm
  clear h hR2
  unfold ptr
  go_enter Try.func22, Try.ntmps22
  go_wp2_with fail
  refine (unhide hcall).mono ?_
  rintro r w1 ⟨rfl, h1⟩
  clear hcall
  obtain ⟨⟨gw, gm, gv⟩, hG⟩ : ∃ G, (lookQ q tag).1 = G := ⟨_, rfl⟩
  rw [hG] at hd ⊢
  have hls := look_some (q := q) (t := tag)
  obtain ⟨ok, hok⟩ : ∃ ok, (lookQ q tag).2 = ok := ⟨_, rfl⟩
  rw [hok] at hd hls ⊢
  unfold GotS.cs
  dsimp only at hd ⊢
  have h2 := h1.new #[.bool gw, .int .u8 gm, .int .u64 gv] 37
  obtain ⟨k5, hk5⟩ : ∃ k, w1.heap.size = k := ⟨_, rfl⟩
  rw [hk5] at h2
  have Hd := hide hd
  have Hls := hide hls
  have HK5 := hide hk5
  clear h1 hd hls hG hok hk5
  cases ok with
  | false =>
    have hfin := hide (show R = (false, q) by rw [unhide Hd]; rfl)
    go_wp2
    rw [unhide HK5]
    refine wp_region_F (fun w_ => Heap w0 w_ (HP.blk k5 #[.bool gw, .int .u8 gm, .int .u64 gv] 37 :: HP.q b q :: L)) (fun _ _ => True) (fun k_ v_ w_ => match k_ with
        | 0 => v_ = .bool false
        | 1 => v_ = .bool true
        | 2 => v_ = .bool true
        | 3 => v_ = undef
        | 4 => v_ = undef
        | 5 => v_ = .bool true
        | 6 => v_ = .bool true
        | 7 => v_ = undef
        | 8 => v_ = undef
        | 9 => v_ = undef
        | 10 => v_ = undef
        | 11 => v_ = undef
        | 12 => v_ = undef
        | 13 => v_ = undef
        | 14 => v_ = undef
        | 15 => v_ = undef
        | 16 => v_ = undef
        | 17 => v_ = undef
        | 18 => v_ = undef
        | _ => v_ = .bool true) fol (by kernel_rfl) ?_ ?_ ?_ ?_
    · exact h2.drew
    · intro k_ v_ w_ w2_ h1 hg
      split at h1 <;> exact h1
    · intro vals
      show wpG _ _ _ _ _ _ 0 (_ :: _) _
      refine wpG_cons (gval (.bool false) (fun _ => trivial) fun w_ hJ hd => ?_) ?_
      · exact ⟨by kernel_rfl, by kernel_rfl, rfl⟩
      refine wpG_cons (gval (.bool true) (fun _ => trivial) fun w_ hJ hd => ?_) ?_
      · have e0 : vals 0 = _ := hd 0 (by decide) (by kernel_rfl)
        rw [e0]
        exact ⟨by kernel_rfl, by kernel_rfl, rfl⟩
      refine wpG_cons (gval (.bool true) (fun _ => trivial) fun w_ hJ hd => ?_) ?_
      · have e1 : vals 1 = _ := hd 1 (by decide) (by kernel_rfl)
        rw [e1]
        exact ⟨by kernel_rfl, by kernel_rfl, rfl⟩
      refine wpG_cons (gskip fun w_ hJ hd => ?_) ?_
      · have e2 : vals 2 = _ := hd 2 (by decide) (by kernel_rfl)
        rw [e2]
        exact ⟨by kernel_rfl, rfl⟩
      refine wpG_cons (gskip fun w_ hJ hd => ?_) ?_
      · have e2 : vals 2 = _ := hd 2 (by decide) (by kernel_rfl)
        rw [e2]
        exact ⟨by kernel_rfl, rfl⟩
      refine wpG_cons (gval (.bool true) (fun _ => trivial) fun w_ hJ hd => ?_) ?_
      · have e2 : vals 2 = _ := hd 2 (by decide) (by kernel_rfl)
        have e4 : vals 4 = _ := hd 4 (by decide) (by kernel_rfl)
        rw [e2, e4]
        exact ⟨by kernel_rfl, by kernel_rfl, rfl⟩
      refine wpG_cons (gval (.bool true) (fun _ => trivial) fun w_ hJ hd => ?_) ?_
      · have e5 : vals 5 = _ := hd 5 (by decide) (by kernel_rfl)
        rw [e5]
        exact ⟨by kernel_rfl, by kernel_rfl, rfl⟩
      refine wpG_cons (gskip fun w_ hJ hd => ?_) ?_
      · have e6 : vals 6 = _ := hd 6 (by decide) (by kernel_rfl)
        rw [e6]
        exact ⟨by kernel_rfl, rfl⟩
      refine wpG_cons (gskip fun w_ hJ hd => ?_) ?_
      · have e6 : vals 6 = _ := hd 6 (by decide) (by kernel_rfl)
        rw [e6]
        exact ⟨by kernel_rfl, rfl⟩
      refine wpG_cons (gskip fun w_ hJ hd => ?_) ?_
      · have e6 : vals 6 = _ := hd 6 (by decide) (by kernel_rfl)
        rw [e6]
        exact ⟨by kernel_rfl, rfl⟩
      refine wpG_cons (gskip fun w_ hJ hd => ?_) ?_
      · have e6 : vals 6 = _ := hd 6 (by decide) (by kernel_rfl)
        rw [e6]
        exact ⟨by kernel_rfl, rfl⟩
      refine wpG_cons (gskip fun w_ hJ hd => ?_) ?_
      · have e6 : vals 6 = _ := hd 6 (by decide) (by kernel_rfl)
        rw [e6]
        exact ⟨by kernel_rfl, rfl⟩
      refine wpG_cons (gskip fun w_ hJ hd => ?_) ?_
      · have e6 : vals 6 = _ := hd 6 (by decide) (by kernel_rfl)
        rw [e6]
        exact ⟨by kernel_rfl, rfl⟩
      refine wpG_cons (gskip fun w_ hJ hd => ?_) ?_
      · have e6 : vals 6 = _ := hd 6 (by decide) (by kernel_rfl)
        rw [e6]
        exact ⟨by kernel_rfl, rfl⟩
      refine wpG_cons (gskip fun w_ hJ hd => ?_) ?_
      · have e6 : vals 6 = _ := hd 6 (by decide) (by kernel_rfl)
        rw [e6]
        exact ⟨by kernel_rfl, rfl⟩
      refine wpG_cons (gskip fun w_ hJ hd => ?_) ?_
      · have e6 : vals 6 = _ := hd 6 (by decide) (by kernel_rfl)
        rw [e6]
        exact ⟨by kernel_rfl, rfl⟩
      refine wpG_cons (gskip fun w_ hJ hd => ?_) ?_
      · have e6 : vals 6 = _ := hd 6 (by decide) (by kernel_rfl)
        rw [e6]
        exact ⟨by kernel_rfl, rfl⟩
      refine wpG_cons (gskip fun w_ hJ hd => ?_) ?_
      · have e6 : vals 6 = _ := hd 6 (by decide) (by kernel_rfl)
        rw [e6]
        exact ⟨by kernel_rfl, rfl⟩
      refine wpG_cons (gskip fun w_ hJ hd => ?_) ?_
      · have e6 : vals 6 = _ := hd 6 (by decide) (by kernel_rfl)
        rw [e6]
        exact ⟨by kernel_rfl, rfl⟩
      refine wpG_cons (gval (.bool true) (fun _ => trivial) fun w_ hJ hd => ?_) wpG_nil
      · have e6 : vals 6 = _ := hd 6 (by decide) (by kernel_rfl)
        have e18 : vals 18 = _ := hd 18 (by decide) (by kernel_rfl)
        rw [e6, e18]
        exact ⟨by kernel_rfl, by kernel_rfl, rfl⟩
    · intro vals w_ hJ hf
      have e0 : vals 0 = _ := hf 0 (by decide)
      have e1 : vals 1 = _ := hf 1 (by decide)
      have e2 : vals 2 = _ := hf 2 (by decide)
      have e3 : vals 3 = _ := hf 3 (by decide)
      have e4 : vals 4 = _ := hf 4 (by decide)
      have e5 : vals 5 = _ := hf 5 (by decide)
      have e6 : vals 6 = _ := hf 6 (by decide)
      have e7 : vals 7 = _ := hf 7 (by decide)
      have e8 : vals 8 = _ := hf 8 (by decide)
      have e9 : vals 9 = _ := hf 9 (by decide)
      have e10 : vals 10 = _ := hf 10 (by decide)
      have e11 : vals 11 = _ := hf 11 (by decide)
      have e12 : vals 12 = _ := hf 12 (by decide)
      have e13 : vals 13 = _ := hf 13 (by decide)
      have e14 : vals 14 = _ := hf 14 (by decide)
      have e15 : vals 15 = _ := hf 15 (by decide)
      have e16 : vals 16 = _ := hf 16 (by decide)
      have e17 : vals 17 = _ := hf 17 (by decide)
      have e18 : vals 18 = _ := hf 18 (by decide)
      have e19 : vals 19 = _ := hf 19 (by decide)
      simp only [fillG, Nat.zero_add, Nat.reduceAdd, e0, e1, e2, e3, e4, e5, e6, e7, e8, e9, e10, e11, e12, e13, e14, e15, e16, e17, e18, e19, Act.put, List.setIfInBounds_toArray, List.set_cons_succ, List.set_cons_zero]
      clear e0 e1 e2 e3 e4 e5 e6 e7 e8 e9 e10 e11 e12 e13 e14 e15 e16 e17 e18 e19 hf
      go_wp2
      go_ret
      exact ⟨by rw [unhide hfin]; rfl, by rw [unhide hfin]; exact hJ.tail⟩
  | true =>
    cases gw with
    | true =>
      have hfin := hide (show R = (false, q) by rw [unhide Hd]; rfl)
      go_wp2
      rw [unhide HK5]
      refine wp_region_F (fun w_ => Heap w0 w_ (HP.blk k5 #[.bool true, .int .u8 gm, .int .u64 gv] 37 :: HP.q b q :: L)) (fun _ _ => True) (fun k_ v_ w_ => match k_ with
          | 0 => v_ = .bool true
          | 1 => v_ = .bool false
          | 2 => v_ = .bool false
          | 3 => v_ = .pointer (some ⟨k5, 0, none⟩)
          | 4 => v_ = .bool true
          | 5 => v_ = .bool true
          | 6 => v_ = .bool true
          | 7 => v_ = undef
          | 8 => v_ = undef
          | 9 => v_ = undef
          | 10 => v_ = undef
          | 11 => v_ = undef
          | 12 => v_ = undef
          | 13 => v_ = undef
          | 14 => v_ = undef
          | 15 => v_ = undef
          | 16 => v_ = undef
          | 17 => v_ = undef
          | 18 => v_ = undef
          | _ => v_ = .bool true) fol (by kernel_rfl) ?_ ?_ ?_ ?_
      · exact h2.drew
      · intro k_ v_ w_ w2_ h1 hg
        split at h1 <;> exact h1
      · intro vals
        show wpG _ _ _ _ _ _ 0 (_ :: _) _
        refine wpG_cons (gval (.bool true) (fun _ => trivial) fun w_ hJ hd => ?_) ?_
        · exact ⟨by kernel_rfl, by kernel_rfl, rfl⟩
        refine wpG_cons (gval (.bool false) (fun _ => trivial) fun w_ hJ hd => ?_) ?_
        · have e0 : vals 0 = _ := hd 0 (by decide) (by kernel_rfl)
          rw [e0]
          exact ⟨by kernel_rfl, by kernel_rfl, rfl⟩
        refine wpG_cons (gval (.bool false) (fun _ => trivial) fun w_ hJ hd => ?_) ?_
        · have e1 : vals 1 = _ := hd 1 (by decide) (by kernel_rfl)
          rw [e1]
          exact ⟨by kernel_rfl, by kernel_rfl, rfl⟩
        refine wpG_cons (gval (.pointer (some ⟨k5, 0, none⟩)) (fun _ => trivial) fun w_ hJ hd => ?_) ?_
        · have e2 : vals 2 = _ := hd 2 (by decide) (by kernel_rfl)
          rw [e2]
          exact ⟨by kernel_rfl, by kernel_rfl, rfl⟩
        refine wpG_cons (gop (Instr.loadAt 4 (.pointer (some ⟨k5, 0, none⟩))) (.bool true) (fun _ => trivial) fun w_ hJ hd => ?_) ?_
        · have e2 : vals 2 = _ := hd 2 (by decide) (by kernel_rfl)
          have e3 : vals 3 = _ := hd 3 (by decide) (by kernel_rfl)
          rw [e2, e3]
          exact ⟨by kernel_rfl, by kernel_rfl, run_load1 (by kernel_rfl) ((cells3f hJ.heap).1), rfl⟩
        refine wpG_cons (gval (.bool true) (fun _ => trivial) fun w_ hJ hd => ?_) ?_
        · have e2 : vals 2 = _ := hd 2 (by decide) (by kernel_rfl)
          have e4 : vals 4 = _ := hd 4 (by decide) (by kernel_rfl)
          rw [e2, e4]
          exact ⟨by kernel_rfl, by kernel_rfl, rfl⟩
        refine wpG_cons (gval (.bool true) (fun _ => trivial) fun w_ hJ hd => ?_) ?_
        · have e5 : vals 5 = _ := hd 5 (by decide) (by kernel_rfl)
          rw [e5]
          exact ⟨by kernel_rfl, by kernel_rfl, rfl⟩
        refine wpG_cons (gskip fun w_ hJ hd => ?_) ?_
        · have e6 : vals 6 = _ := hd 6 (by decide) (by kernel_rfl)
          rw [e6]
          exact ⟨by kernel_rfl, rfl⟩
        refine wpG_cons (gskip fun w_ hJ hd => ?_) ?_
        · have e6 : vals 6 = _ := hd 6 (by decide) (by kernel_rfl)
          rw [e6]
          exact ⟨by kernel_rfl, rfl⟩
        refine wpG_cons (gskip fun w_ hJ hd => ?_) ?_
        · have e6 : vals 6 = _ := hd 6 (by decide) (by kernel_rfl)
          rw [e6]
          exact ⟨by kernel_rfl, rfl⟩
        refine wpG_cons (gskip fun w_ hJ hd => ?_) ?_
        · have e6 : vals 6 = _ := hd 6 (by decide) (by kernel_rfl)
          rw [e6]
          exact ⟨by kernel_rfl, rfl⟩
        refine wpG_cons (gskip fun w_ hJ hd => ?_) ?_
        · have e6 : vals 6 = _ := hd 6 (by decide) (by kernel_rfl)
          rw [e6]
          exact ⟨by kernel_rfl, rfl⟩
        refine wpG_cons (gskip fun w_ hJ hd => ?_) ?_
        · have e6 : vals 6 = _ := hd 6 (by decide) (by kernel_rfl)
          rw [e6]
          exact ⟨by kernel_rfl, rfl⟩
        refine wpG_cons (gskip fun w_ hJ hd => ?_) ?_
        · have e6 : vals 6 = _ := hd 6 (by decide) (by kernel_rfl)
          rw [e6]
          exact ⟨by kernel_rfl, rfl⟩
        refine wpG_cons (gskip fun w_ hJ hd => ?_) ?_
        · have e6 : vals 6 = _ := hd 6 (by decide) (by kernel_rfl)
          rw [e6]
          exact ⟨by kernel_rfl, rfl⟩
        refine wpG_cons (gskip fun w_ hJ hd => ?_) ?_
        · have e6 : vals 6 = _ := hd 6 (by decide) (by kernel_rfl)
          rw [e6]
          exact ⟨by kernel_rfl, rfl⟩
        refine wpG_cons (gskip fun w_ hJ hd => ?_) ?_
        · have e6 : vals 6 = _ := hd 6 (by decide) (by kernel_rfl)
          rw [e6]
          exact ⟨by kernel_rfl, rfl⟩
        refine wpG_cons (gskip fun w_ hJ hd => ?_) ?_
        · have e6 : vals 6 = _ := hd 6 (by decide) (by kernel_rfl)
          rw [e6]
          exact ⟨by kernel_rfl, rfl⟩
        refine wpG_cons (gskip fun w_ hJ hd => ?_) ?_
        · have e6 : vals 6 = _ := hd 6 (by decide) (by kernel_rfl)
          rw [e6]
          exact ⟨by kernel_rfl, rfl⟩
        refine wpG_cons (gval (.bool true) (fun _ => trivial) fun w_ hJ hd => ?_) wpG_nil
        · have e6 : vals 6 = _ := hd 6 (by decide) (by kernel_rfl)
          have e18 : vals 18 = _ := hd 18 (by decide) (by kernel_rfl)
          rw [e6, e18]
          exact ⟨by kernel_rfl, by kernel_rfl, rfl⟩
      · intro vals w_ hJ hf
        have e0 : vals 0 = _ := hf 0 (by decide)
        have e1 : vals 1 = _ := hf 1 (by decide)
        have e2 : vals 2 = _ := hf 2 (by decide)
        have e3 : vals 3 = _ := hf 3 (by decide)
        have e4 : vals 4 = _ := hf 4 (by decide)
        have e5 : vals 5 = _ := hf 5 (by decide)
        have e6 : vals 6 = _ := hf 6 (by decide)
        have e7 : vals 7 = _ := hf 7 (by decide)
        have e8 : vals 8 = _ := hf 8 (by decide)
        have e9 : vals 9 = _ := hf 9 (by decide)
        have e10 : vals 10 = _ := hf 10 (by decide)
        have e11 : vals 11 = _ := hf 11 (by decide)
        have e12 : vals 12 = _ := hf 12 (by decide)
        have e13 : vals 13 = _ := hf 13 (by decide)
        have e14 : vals 14 = _ := hf 14 (by decide)
        have e15 : vals 15 = _ := hf 15 (by decide)
        have e16 : vals 16 = _ := hf 16 (by decide)
        have e17 : vals 17 = _ := hf 17 (by decide)
        have e18 : vals 18 = _ := hf 18 (by decide)
        have e19 : vals 19 = _ := hf 19 (by decide)
        simp only [fillG, Nat.zero_add, Nat.reduceAdd, e0, e1, e2, e3, e4, e5, e6, e7, e8, e9, e10, e11, e12, e13, e14, e15, e16, e17, e18, e19, Act.put, List.setIfInBounds_toArray, List.set_cons_succ, List.set_cons_zero]
        clear e0 e1 e2 e3 e4 e5 e6 e7 e8 e9 e10 e11 e12 e13 e14 e15 e16 e17 e18 e19 hf
        go_wp2
        go_ret
        exact ⟨by rw [unhide hfin]; rfl, by rw [unhide hfin]; exact hJ.tail⟩
    | false =>
      obtain ⟨n, e, hf, he, hs, hp⟩ := unhide Hls rfl
      have hd := unhide Hd
      rw [hf] at hd
      dsimp only at hd
      rw [he] at hd
      dsimp only at hd
      have Hd2 := hide hd
      clear hd
      obtain ⟨A, cap, bs, hR, hh⟩ := h2.f2.qr
      obtain ⟨g, o, x, rfl, hx, _, _, _, _⟩ := hR.ent_at he
      have hnl := (List.getElem?_eq_some_iff.1 he).1
      have HK := hide hR.ok
      have hO : Heap w0 _ (HP.blk k5 #[.bool false, .int .u8 gm, .int .u64 gv] 37 :: O b (some ⟨g, o, none⟩) cap bs q L) := hh.f4
      clear h2 hh hR
      have h2 := hO
      clear hO
      have G2 : ∀ w_, Heap w0 w_ (HP.blk k5 #[.bool false, .int .u8 gm, .int .u64 gv] 37 :: O b (some ⟨g, o, none⟩) cap bs q L) → w_.cell? ⟨b, 0, none⟩ = some (.slice (some ⟨g, o, none⟩) q.l.length cap) := fun w_ hJ => (Heap.rq (unhide HK) hJ.tail).c0.1
      have GP : ∀ w_, Heap w0 w_ (HP.blk k5 #[.bool false, .int .u8 gm, .int .u64 gv] 37 :: O b (some ⟨g, o, none⟩) cap bs q L) → w_.cell? ⟨g, o + n, none⟩ = some (.pointer (some ⟨x, 0, none⟩)) := fun w_ hJ => gptr (Heap.rq (unhide HK) hJ.tail) he hx
      have GX : ∀ w_, Heap w0 w_ (HP.blk k5 #[.bool false, .int .u8 gm, .int .u64 gv] 37 :: O b (some ⟨g, o, none⟩) cap bs q L) → w_.heap[x]? = some (.cells e.cs.toArray 76 (0, 0)) := fun w_ hJ => (Heap.f4 hJ).ents_get hx he
      have GF : ∀ w_, Heap w0 w_ (HP.blk k5 #[.bool false, .int .u8 gm, .int .u64 gv] 37 :: O b (some ⟨g, o, none⟩) cap bs q L) → Calls Try.prog 35 #[.pointer (some ⟨b, 0, none⟩), .int .i64 tag] w_ fun r w' => r = .returned (.int .i64 (n : Nat)) ∧ w' = w_ := fun w_ hJ => by have h9 := find_any (Heap.rq (unhide HK) hJ.tail) tag; rw [hf] at h9; exact h9
      obtain ⟨rd, hrd⟩ : ∃ rd, e.read = rd := ⟨_, rfl⟩
      have G5 : ∀ w_, Heap w0 w_ (HP.blk k5 #[.bool false, .int .u8 gm, .int .u64 gv] 37 :: O b (some ⟨g, o, none⟩) cap bs q L) → w_.cell? ⟨x, 5, none⟩ = some (.bool rd) := fun w_ hJ => by rw [← hrd]; exact (cells9 (GX w_ hJ)).2.2.2.2.2.1
      rw [hrd] at Hd2
      have He := hide he
      have Hx := hide hx
      clear he hx hf
      go_wp2
      rw [unhide HK5]
      refine wp_region_F (fun w_ => Heap w0 w_ (HP.blk k5 #[.bool false, .int .u8 gm, .int .u64 gv] 37 :: O b (some ⟨g, o, none⟩) cap bs q L)) (fun _ _ => True) (fun k_ v_ w_ => match k_ with
          | 0 => v_ = .bool true
          | 1 => v_ = .bool false
          | 2 => v_ = .bool false
          | 3 => v_ = .pointer (some ⟨k5, 0, none⟩)
          | 4 => v_ = .bool false
          | 5 => v_ = .bool false
          | 6 => v_ = .bool false
          | 7 => v_ = .pointer (some ⟨b, 0, none⟩)
          | 8 => v_ = .pointer (some ⟨b, 0, none⟩)
          | 9 => v_ = .pointer (some ⟨b, 0, none⟩)
          | 10 => v_ = .slice (some ⟨g, o, none⟩) q.l.length cap
          | 11 => v_ = .pointer (some ⟨b, 0, none⟩)
          | 12 => v_ = .int .i64 tag
          | 13 => v_ = .int .i64 (n : Nat)
          | 14 => v_ = .pointer (some ⟨g, o + n, none⟩)
          | 15 => v_ = .pointer (some ⟨x, 0, none⟩)
          | 16 => v_ = .pointer (some ⟨x, 0, none⟩)
          | 17 => v_ = .pointer (some ⟨x, 5, none⟩)
          | 18 => v_ = .bool rd
          | _ => v_ = .bool rd) fol (by kernel_rfl) ?_ ?_ ?_ ?_
      · exact h2.drew
      · intro k_ v_ w_ w2_ h1 hg
        split at h1 <;> exact h1
      · intro vals
        show wpG _ _ _ _ _ _ 0 (_ :: _) _
        refine wpG_cons (gval (.bool true) (fun _ => trivial) fun w_ hJ hd => ?_) ?_
        · exact ⟨by kernel_rfl, by kernel_rfl, rfl⟩
        refine wpG_cons (gval (.bool false) (fun _ => trivial) fun w_ hJ hd => ?_) ?_
        · have e0 : vals 0 = _ := hd 0 (by decide) (by kernel_rfl)
          rw [e0]
          exact ⟨by kernel_rfl, by kernel_rfl, rfl⟩
        refine wpG_cons (gval (.bool false) (fun _ => trivial) fun w_ hJ hd => ?_) ?_
        · have e1 : vals 1 = _ := hd 1 (by decide) (by kernel_rfl)
          rw [e1]
          exact ⟨by kernel_rfl, by kernel_rfl, rfl⟩
        refine wpG_cons (gval (.pointer (some ⟨k5, 0, none⟩)) (fun _ => trivial) fun w_ hJ hd => ?_) ?_
        · have e2 : vals 2 = _ := hd 2 (by decide) (by kernel_rfl)
          rw [e2]
          exact ⟨by kernel_rfl, by kernel_rfl, rfl⟩
        refine wpG_cons (gop (Instr.loadAt 4 (.pointer (some ⟨k5, 0, none⟩))) (.bool false) (fun _ => trivial) fun w_ hJ hd => ?_) ?_
        · have e2 : vals 2 = _ := hd 2 (by decide) (by kernel_rfl)
          have e3 : vals 3 = _ := hd 3 (by decide) (by kernel_rfl)
          rw [e2, e3]
          exact ⟨by kernel_rfl, by kernel_rfl, run_load1 (by kernel_rfl) ((cells3f hJ.heap).1), rfl⟩
        refine wpG_cons (gval (.bool false) (fun _ => trivial) fun w_ hJ hd => ?_) ?_
        · have e2 : vals 2 = _ := hd 2 (by decide) (by kernel_rfl)
          have e4 : vals 4 = _ := hd 4 (by decide) (by kernel_rfl)
          rw [e2, e4]
          exact ⟨by kernel_rfl, by kernel_rfl, rfl⟩
        refine wpG_cons (gval (.bool false) (fun _ => trivial) fun w_ hJ hd => ?_) ?_
        · have e5 : vals 5 = _ := hd 5 (by decide) (by kernel_rfl)
          rw [e5]
          exact ⟨by kernel_rfl, by kernel_rfl, rfl⟩
        refine wpG_cons (gval (.pointer (some ⟨b, 0, none⟩)) (fun _ => trivial) fun w_ hJ hd => ?_) ?_
        · have e6 : vals 6 = _ := hd 6 (by decide) (by kernel_rfl)
          rw [e6]
          exact ⟨by kernel_rfl, by kernel_rfl, rfl⟩
        refine wpG_cons (gval (.pointer (some ⟨b, 0, none⟩)) (fun _ => trivial) fun w_ hJ hd => ?_) ?_
        · have e6 : vals 6 = _ := hd 6 (by decide) (by kernel_rfl)
          have e7 : vals 7 = _ := hd 7 (by decide) (by kernel_rfl)
          rw [e6, e7]
          exact ⟨by kernel_rfl, by kernel_rfl, rfl⟩
        refine wpG_cons (gval (.pointer (some ⟨b, 0, none⟩)) (fun _ => trivial) fun w_ hJ hd => ?_) ?_
        · have e6 : vals 6 = _ := hd 6 (by decide) (by kernel_rfl)
          have e8 : vals 8 = _ := hd 8 (by decide) (by kernel_rfl)
          rw [e6, e8]
          exact ⟨by kernel_rfl, by kernel_rfl, rfl⟩
        refine wpG_cons (gop (Instr.loadAt 64 (.pointer (some ⟨b, 0, none⟩))) (.slice (some ⟨g, o, none⟩) q.l.length cap) (fun _ => trivial) fun w_ hJ hd => ?_) ?_
        · have e6 : vals 6 = _ := hd 6 (by decide) (by kernel_rfl)
          have e9 : vals 9 = _ := hd 9 (by decide) (by kernel_rfl)
          rw [e6, e9]
          exact ⟨by kernel_rfl, by kernel_rfl, run_load1 (by kernel_rfl) (G2 w_ hJ), rfl⟩
        refine wpG_cons (gval (.pointer (some ⟨b, 0, none⟩)) (fun _ => trivial) fun w_ hJ hd => ?_) ?_
        · have e6 : vals 6 = _ := hd 6 (by decide) (by kernel_rfl)
          rw [e6]
          exact ⟨by kernel_rfl, by kernel_rfl, rfl⟩
        refine wpG_cons (gval (.int .i64 tag) (fun _ => trivial) fun w_ hJ hd => ?_) ?_
        · have e6 : vals 6 = _ := hd 6 (by decide) (by kernel_rfl)
          rw [e6]
          exact ⟨by kernel_rfl, by kernel_rfl, rfl⟩
        refine wpG_cons (gcall 35 #[.pointer (some ⟨b, 0, none⟩), .int .i64 tag] fun w_ hJ hd => ?_) ?_
        · have e6 : vals 6 = _ := hd 6 (by decide) (by kernel_rfl)
          have e11 : vals 11 = _ := hd 11 (by decide) (by kernel_rfl)
          have e12 : vals 12 = _ := hd 12 (by decide) (by kernel_rfl)
          rw [e6, e11, e12]
          exact ⟨by kernel_rfl, by kernel_rfl, (GF w_ hJ).mono fun e w' ⟨hr, hw⟩ => ⟨_, hr, by rw [hw]; exact hJ, trivial, rfl⟩⟩
        refine wpG_cons (gop (Instr.indexAt 64 (.slice (some ⟨g, o, none⟩) q.l.length cap) (.int .i64 (n : Nat))) (.pointer (some ⟨g, o + n, none⟩)) (fun _ => trivial) fun w_ hJ hd => ?_) ?_
        · have e6 : vals 6 = _ := hd 6 (by decide) (by kernel_rfl)
          have e10 : vals 10 = _ := hd 10 (by decide) (by kernel_rfl)
          have e13 : vals 13 = _ := hd 13 (by decide) (by kernel_rfl)
          rw [e6, e10, e13]
          exact ⟨by kernel_rfl, by kernel_rfl, (run_ixat 64 74 1 Try.underlying64 (by kernel_rfl) _ _ _ _ _ hnl w_).trans (by rw [Nat.mul_one]), rfl⟩
        refine wpG_cons (gop (Instr.loadAt 74 (.pointer (some ⟨g, o + n, none⟩))) (.pointer (some ⟨x, 0, none⟩)) (fun _ => trivial) fun w_ hJ hd => ?_) ?_
        · have e6 : vals 6 = _ := hd 6 (by decide) (by kernel_rfl)
          have e14 : vals 14 = _ := hd 14 (by decide) (by kernel_rfl)
          rw [e6, e14]
          exact ⟨by kernel_rfl, by kernel_rfl, run_load1 (by kernel_rfl) (GP w_ hJ), rfl⟩
        refine wpG_cons (gval (.pointer (some ⟨x, 0, none⟩)) (fun _ => trivial) fun w_ hJ hd => ?_) ?_
        · have e6 : vals 6 = _ := hd 6 (by decide) (by kernel_rfl)
          have e15 : vals 15 = _ := hd 15 (by decide) (by kernel_rfl)
          rw [e6, e15]
          exact ⟨by kernel_rfl, by kernel_rfl, rfl⟩
        refine wpG_cons (gval (.pointer (some ⟨x, 5, none⟩)) (fun _ => trivial) fun w_ hJ hd => ?_) ?_
        · have e6 : vals 6 = _ := hd 6 (by decide) (by kernel_rfl)
          have e16 : vals 16 = _ := hd 16 (by decide) (by kernel_rfl)
          rw [e6, e16]
          exact ⟨by kernel_rfl, by kernel_rfl, rfl⟩
        refine wpG_cons (gop (Instr.loadAt 4 (.pointer (some ⟨x, 5, none⟩))) (.bool rd) (fun _ => trivial) fun w_ hJ hd => ?_) ?_
        · have e6 : vals 6 = _ := hd 6 (by decide) (by kernel_rfl)
          have e17 : vals 17 = _ := hd 17 (by decide) (by kernel_rfl)
          rw [e6, e17]
          exact ⟨by kernel_rfl, by kernel_rfl, run_load1 (by kernel_rfl) (G5 w_ hJ), rfl⟩
        refine wpG_cons (gval (.bool rd) (fun _ => trivial) fun w_ hJ hd => ?_) wpG_nil
        · have e6 : vals 6 = _ := hd 6 (by decide) (by kernel_rfl)
          have e18 : vals 18 = _ := hd 18 (by decide) (by kernel_rfl)
          rw [e6, e18]
          exact ⟨by kernel_rfl, by kernel_rfl, rfl⟩
      · intro vals w_ hJ hf
        have e0 : vals 0 = _ := hf 0 (by decide)
        have e1 : vals 1 = _ := hf 1 (by decide)
        have e2 : vals 2 = _ := hf 2 (by decide)
        have e3 : vals 3 = _ := hf 3 (by decide)
        have e4 : vals 4 = _ := hf 4 (by decide)
        have e5 : vals 5 = _ := hf 5 (by decide)
        have e6 : vals 6 = _ := hf 6 (by decide)
        have e7 : vals 7 = _ := hf 7 (by decide)
        have e8 : vals 8 = _ := hf 8 (by decide)
        have e9 : vals 9 = _ := hf 9 (by decide)
        have e10 : vals 10 = _ := hf 10 (by decide)
        have e11 : vals 11 = _ := hf 11 (by decide)
        have e12 : vals 12 = _ := hf 12 (by decide)
        have e13 : vals 13 = _ := hf 13 (by decide)
        have e14 : vals 14 = _ := hf 14 (by decide)
        have e15 : vals 15 = _ := hf 15 (by decide)
        have e16 : vals 16 = _ := hf 16 (by decide)
        have e17 : vals 17 = _ := hf 17 (by decide)
        have e18 : vals 18 = _ := hf 18 (by decide)
        have e19 : vals 19 = _ := hf 19 (by decide)
        simp only [fillG, Nat.zero_add, Nat.reduceAdd, e0, e1, e2, e3, e4, e5, e6, e7, e8, e9, e10, e11, e12, e13, e14, e15, e16, e17, e18, e19, Act.put, List.setIfInBounds_toArray, List.set_cons_succ, List.set_cons_zero]
        clear e0 e1 e2 e3 e4 e5 e6 e7 e8 e9 e10 e11 e12 e13 e14 e15 e16 e17 e18 e19 hf
        clear h2
        cases rd with
        | true =>
          have hfin := hide (show R = (false, q) by rw [unhide Hd2]; rfl)
          go_wp2
          go_ret
          exact ⟨by rw [unhide hfin]; rfl, by rw [unhide hfin]; exact Heap.qc (unhide HK).inv (unhide HK).lenl hJ.tail⟩
        | false =>
          have hfin := hide (show R = (true, ⟨q.l.set n { e with read := true }, q.h⟩) by rw [unhide Hd2]; rfl)
          go_wp2
          refine wp_region_E (fun w_ => Heap w0 w_ (HP.blk k5 #[.bool false, .int .u8 gm, .int .u64 gv] 37 :: O b (some ⟨g, o, none⟩) cap bs q L)) (fun _ _ => True) (fun k_ v_ w_ => match k_ with
              | 0 => v_ = .pointer (some ⟨b, 0, none⟩)
              | 1 => v_ = .pointer (some ⟨b, 0, none⟩)
              | 2 => v_ = .pointer (some ⟨b, 0, none⟩)
              | 3 => v_ = .slice (some ⟨g, o, none⟩) q.l.length cap
              | 4 => v_ = .pointer (some ⟨b, 0, none⟩)
              | 5 => v_ = .int .i64 tag
              | 6 => v_ = .int .i64 (n : Nat)
              | 7 => v_ = .pointer (some ⟨g, o + n, none⟩)
              | 8 => v_ = .pointer (some ⟨x, 0, none⟩)
              | 9 => v_ = .pointer (some ⟨x, 0, none⟩)
              | _ => v_ = .pointer (some ⟨x, 5, none⟩)) fol (by kernel_rfl) ?_ ?_ (n := 11) rfl rfl rfl (by kernel_rfl) ?_ ?_
          · exact hJ.drew
          · intro k_ v_ w_ w2_ h1 hg
            split at h1 <;> exact h1
          · intro vals
            show wpG _ _ _ _ _ _ 0 (_ :: _) _
            refine wpG_cons (gval (.pointer (some ⟨b, 0, none⟩)) (fun _ => trivial) fun w_ hJ hd => ?_) ?_
            · exact ⟨by kernel_rfl, by kernel_rfl, rfl⟩
            refine wpG_cons (gval (.pointer (some ⟨b, 0, none⟩)) (fun _ => trivial) fun w_ hJ hd => ?_) ?_
            · have e0 : vals 0 = _ := hd 0 (by decide) (by kernel_rfl)
              rw [e0]
              exact ⟨by kernel_rfl, by kernel_rfl, rfl⟩
            refine wpG_cons (gval (.pointer (some ⟨b, 0, none⟩)) (fun _ => trivial) fun w_ hJ hd => ?_) ?_
            · have e1 : vals 1 = _ := hd 1 (by decide) (by kernel_rfl)
              rw [e1]
              exact ⟨by kernel_rfl, by kernel_rfl, rfl⟩
            refine wpG_cons (gop (Instr.loadAt 64 (.pointer (some ⟨b, 0, none⟩))) (.slice (some ⟨g, o, none⟩) q.l.length cap) (fun _ => trivial) fun w_ hJ hd => ?_) ?_
            · have e2 : vals 2 = _ := hd 2 (by decide) (by kernel_rfl)
              rw [e2]
              exact ⟨by kernel_rfl, by kernel_rfl, run_load1 (by kernel_rfl) (G2 w_ hJ), rfl⟩
            refine wpG_cons (gval (.pointer (some ⟨b, 0, none⟩)) (fun _ => trivial) fun w_ hJ hd => ?_) ?_
            · exact ⟨by kernel_rfl, by kernel_rfl, rfl⟩
            refine wpG_cons (gval (.int .i64 tag) (fun _ => trivial) fun w_ hJ hd => ?_) ?_
            · exact ⟨by kernel_rfl, by kernel_rfl, rfl⟩
            refine wpG_cons (gcall 35 #[.pointer (some ⟨b, 0, none⟩), .int .i64 tag] fun w_ hJ hd => ?_) ?_
            · have e4 : vals 4 = _ := hd 4 (by decide) (by kernel_rfl)
              have e5 : vals 5 = _ := hd 5 (by decide) (by kernel_rfl)
              rw [e4, e5]
              exact ⟨by kernel_rfl, by kernel_rfl, (GF w_ hJ).mono fun e w' ⟨hr, hw⟩ => ⟨_, hr, by rw [hw]; exact hJ, trivial, rfl⟩⟩
            refine wpG_cons (gop (Instr.indexAt 64 (.slice (some ⟨g, o, none⟩) q.l.length cap) (.int .i64 (n : Nat))) (.pointer (some ⟨g, o + n, none⟩)) (fun _ => trivial) fun w_ hJ hd => ?_) ?_
            · have e3 : vals 3 = _ := hd 3 (by decide) (by kernel_rfl)
              have e6 : vals 6 = _ := hd 6 (by decide) (by kernel_rfl)
              rw [e3, e6]
              exact ⟨by kernel_rfl, by kernel_rfl, (run_ixat 64 74 1 Try.underlying64 (by kernel_rfl) _ _ _ _ _ hnl w_).trans (by rw [Nat.mul_one]), rfl⟩
            refine wpG_cons (gop (Instr.loadAt 74 (.pointer (some ⟨g, o + n, none⟩))) (.pointer (some ⟨x, 0, none⟩)) (fun _ => trivial) fun w_ hJ hd => ?_) ?_
            · have e7 : vals 7 = _ := hd 7 (by decide) (by kernel_rfl)
              rw [e7]
              exact ⟨by kernel_rfl, by kernel_rfl, run_load1 (by kernel_rfl) (GP w_ hJ), rfl⟩
            refine wpG_cons (gval (.pointer (some ⟨x, 0, none⟩)) (fun _ => trivial) fun w_ hJ hd => ?_) ?_
            · have e8 : vals 8 = _ := hd 8 (by decide) (by kernel_rfl)
              rw [e8]
              exact ⟨by kernel_rfl, by kernel_rfl, rfl⟩
            refine wpG_cons (gval (.pointer (some ⟨x, 5, none⟩)) (fun _ => trivial) fun w_ hJ hd => ?_) wpG_nil
            · have e9 : vals 9 = _ := hd 9 (by decide) (by kernel_rfl)
              rw [e9]
              exact ⟨by kernel_rfl, by kernel_rfl, rfl⟩
          · intro vals w_ hJ hf
            have e0 : vals 0 = _ := hf 0 (by decide)
            have e1 : vals 1 = _ := hf 1 (by decide)
            have e2 : vals 2 = _ := hf 2 (by decide)
            have e3 : vals 3 = _ := hf 3 (by decide)
            have e4 : vals 4 = _ := hf 4 (by decide)
            have e5 : vals 5 = _ := hf 5 (by decide)
            have e6 : vals 6 = _ := hf 6 (by decide)
            have e7 : vals 7 = _ := hf 7 (by decide)
            have e8 : vals 8 = _ := hf 8 (by decide)
            have e9 : vals 9 = _ := hf 9 (by decide)
            have e10 : vals 10 = _ := hf 10 (by decide)
            show Oper.wp _ _ (fillG vals 0 (_ :: _ :: _ :: _ :: _ :: _ :: _ :: _ :: _ :: _ :: _ :: []) _) _ _ _
            simp only [fillG, Nat.zero_add, Nat.reduceAdd, e0, e1, e2, e3, e4, e5, e6, e7, e8, e9, e10, Act.put, List.setIfInBounds_toArray, List.set_cons_succ, List.set_cons_zero]
            clear e0 e1 e2 e3 e4 e5 e6 e7 e8 e9 e10 hf
            refine wp_last_skip (w' := w_.setCell ⟨x, 5, none⟩ (.bool true)) (m := Instr.storeAt 4 (.pointer (some ⟨x, 5, none⟩)) (.bool true)) (by kernel_rfl) (run_store1 (by kernel_rfl) rfl rfl (G5 w_ hJ) (frozen9 (GX w_ hJ) 5)) ?_
            first | show Exit.then _ _ Exit.normal (Act.put ⟨_, _⟩ none _) _ | show Exit.inBlock _ _ Exit.normal (Act.put ⟨_, _⟩ none _) _ | skip
            simp only [Act.put]
            have h9 := ((Heap.f4 hJ).ents_out (unhide Hx) (unhide He)).setl 5 (.bool true)
            have h10 : Heap w0 (w_.setCell ⟨x, 5, none⟩ (.bool true)) (HP.blk x ({ e with read := true } : Ent).cs.toArray 76 :: _) := h9
            have h11 := (h10.ents_in (unhide Hx) hnl).b4.tail
            have hin := (unhide HK).inv.set (e' := { e with read := true }) (unhide He) rfl rfl (by have h1 := (unhide HK).inv.ok e (List.mem_of_getElem? (unhide He)); exact ⟨h1.tag, h1.pc, h1.at_, h1.v, h1.size, fun _ => ⟨hs, hp⟩, h1.data⟩)
            have h12 : Heap w0 (w_.setCell ⟨x, 5, none⟩ (.bool true)) (HP.q b ⟨q.l.set n { e with read := true }, q.h⟩ :: L) := by
              refine Heap.qc (A := some ⟨g, o, none⟩) (cap := cap) (bs := bs) hin (by rw [(unhide HK).lenl]; exact (List.length_set ..).symm) ?_
              dsimp only
              rw [List.length_set]
              exact h11
            generalize w_.setCell ⟨x, 5, none⟩ (.bool true) = w9 at *
            clear hJ h9 h10 h11
            go_wp2
            go_ret
            exact ⟨by rw [unhide hfin]; rfl, by rw [unhide hfin]; exact h12⟩
end
end Go.Proofs.Ytdmkgomcomcfhaa
