/- Layer 23: the closure of Look. -/
import Derived.Test.YtdmkgomcomcfhaaQ9
namespace Go.Proofs.Ytdmkgomcomcfhaa
open Go.RowKit

theorem giver_some {l : List Ent} {a : Int} : ∀ {n g : Nat}, giver l a n = some g → g < n ∧ ∃ s, l[g]? = some s ∧ s.store = true ∧ s.has a = true := by
  intro n
  induction n with
  | zero => intro g h; simp [giver] at h
  | succ n ih =>
    intro g h
    unfold giver at h
    split at h
    · rename_i s hs
      split at h
      · rename_i hc
        injection h with h
        subst h
        simp only [Bool.and_eq_true] at hc
        exact ⟨by omega, s, hs, hc.1, hc.2⟩
      · have := ih h
        exact ⟨by omega, this.2⟩
    · have := ih h
      exact ⟨by omega, this.2⟩
theorem size_le {s : Ent} (h : s.ok) : s.size ≤ 8 := by rcases h.size with ⟨_, h⟩ | ⟨_, h, _⟩ <;> omega
theorem giver_sh {q : Qs} (hI : QI q) {e s : Ent} {i n g : Nat} (h : giver q.l (wrapA e.at_ i) n = some g) (hs : q.l[g]? = some s) : shD e s i < 8 := by
  obtain ⟨_, s', hs', _, hh⟩ := giver_some h
  rw [hs] at hs'
  injection hs' with hs'
  subst hs'
  have h8 := size_le (hI.ok s (List.mem_of_getElem? hs))
  unfold Ent.has at hh
  simp only [Bool.and_eq_true, decide_eq_true_eq] at hh
  unfold shD
  omega
section
variable {w0 w : World} {L : List HP} {b : Nat} {q : Qs} {g o cap : Nat} {bs : List Nat}
theorem gptr (h : RQ w b (some ⟨g, o, none⟩) cap bs q) {n x : Nat} {e : Ent} (he : q.l[n]? = some e) (hx : bs[n]? = some x) : w.cell? ⟨g, o + n, none⟩ = some (ptr x) := by
  obtain ⟨g', o', x', hA, hx', _, hg, _⟩ := h.ent_at he
  injection hA with hA
  injection hA with h1 h2
  subst h1 h2
  rw [hx] at hx'
  injection hx' with hx'
  rw [hx']
  exact hg
theorem cl42n {kQ kG kN i : Nat} : Calls Try.prog 42 #[.int .i64 i, .int .i64 (-1), ptr kQ, ptr kG, ptr kN] w fun r w' => r = .returned (.tuple #[]) ∧ w' = w := by
  unfold ptr
  go_enter Try.func42, Try.ntmps42
  go_wp2
  exact bodyPost_ret (v := .tuple #[]) (by simp [results, Try.results42, go_sem]) rfl ⟨rfl, rfl⟩
set_option maxRecDepth 100000 in
set_option maxHeartbeats 4000000 in
theorem cl42 {kQ kG kN n i gi : Nat} {e s : Ent} {G : GotS} (hk : OK b (some ⟨g, o, none⟩) cap bs q) (he : q.l[n]? = some e) (hs : q.l[gi]? = some s) (hi : i < 8) (hD : shD e s i < 8) (hG : G.bd i)
    (h : Heap w0 w (HP.blk kQ #[ptr b] 24 :: HP.blk kG G.cs.toArray 37 :: HP.blk kN #[.int .i64 (n : Nat)] 3 :: O b (some ⟨g, o, none⟩) cap bs q L)) :
    Calls Try.prog 42 #[.int .i64 i, .int .i64 gi, ptr kQ, ptr kG, ptr kN] w fun r w' => r = .returned (.tuple #[]) ∧
      Heap w0 w' (HP.blk kQ #[ptr b] 24 :: HP.blk kG (GotS.mk (G.wait || !s.data) (G.mask + 2 ^ i) (G.val + byteG e s i * 2 ^ (8 * i))).cs.toArray 37 :: HP.blk kN #[.int .i64 (n : Nat)] 3 :: O b (some ⟨g, o, none⟩) cap bs q L) := by
  obtain ⟨gw, gm, gv⟩ := G
  obtain ⟨m0, m1, v0, v1⟩ := hG
  dsimp only at m0 m1 v0 v1
  have heo := hk.inv.ok e (List.mem_of_getElem? he)
  have hso := hk.inv.ok s (List.mem_of_getElem? hs)
  obtain ⟨e0, e1⟩ := heo.at_
  obtain ⟨s0, s1⟩ := hso.at_
  obtain ⟨t0, t1⟩ := hso.v
  have hnl := (List.getElem?_eq_some_iff.1 he).1
  have hgil := (List.getElem?_eq_some_iff.1 hs).1
  have hlen16 := hk.inv.len
  obtain ⟨D, hDe⟩ : ∃ D, shD e s i = D := ⟨_, rfl⟩
  have hb1 := byteG_bd e s i
  have hb2 : byteG e s i = s.v / 2 ^ (8 * D) % 256 := by unfold byteG; rw [hDe]
  rw [hDe] at hD
  obtain ⟨B, hBe⟩ : ∃ B, byteG e s i = B := ⟨_, rfl⟩
  rw [hBe] at hb1 hb2 ⊢
  have p2 : (1 : Int) ≤ 2 ^ (8 * D) := by have := pow_pos (8 * D); omega
  have hW : IntKind.u64.wrap (8 * IntKind.u64.wrap (IntKind.u64.wrap (e.at_ + IntKind.u64.wrap (i : Int)) - s.at_)) = ((8 * D : Nat) : Int) := by
    unfold shD wrapA at hDe
    simp only [IntKind.wrap_u64]
    omega
  have hY0 : ∀ w, (binOp .shr 28 (.int .u64 s.v) (.int .u64 (IntKind.u64.wrap (8 * IntKind.u64.wrap (IntKind.u64.wrap (e.at_ + IntKind.u64.wrap (i : Int)) - s.at_))))).run Try.prog w = .ok (.int .u64 (s.v / 2 ^ (8 * D))) w := shr64 s.v _ (8 * D) hW (by omega)
  have yb0 : 0 ≤ s.v / 2 ^ (8 * D) := Int.ediv_nonneg t0 (by omega)
  have yb1 : s.v / 2 ^ (8 * D) ≤ s.v := Int.ediv_le_self _ t0
  have hB0 : ∀ w, (binOp .and 28 (.int .u64 (s.v / 2 ^ (8 * D))) (.int .u64 255)).run Try.prog w = .ok (.int .u64 B) w := fun w => by rw [hb2]; exact and255 _ yb0 (by omega) w
  obtain ⟨Y, hYe⟩ : ∃ Y, s.v / 2 ^ (8 * D) = Y := ⟨_, rfl⟩
  rw [hYe] at hY0 hB0
  have p3 := pow_pos (8 * i)
  have p4 : (2 : Int) ^ (8 * i) ≤ 72057594037927936 := by
    have h1 : 2 ^ (8 * i) ≤ 2 ^ 56 := Nat.pow_le_pow_right (by decide) (by omega)
    have h2 : (2 : Int) ^ (8 * i) = ((2 ^ (8 * i) : Nat) : Int) := by simp
    rw [h2]
    omega
  have h3 : B * 2 ^ (8 * i) ≤ 255 * 2 ^ (8 * i) := Int.mul_le_mul_of_nonneg_right (by omega) (by omega)
  have h4 : 0 ≤ B * 2 ^ (8 * i) := Int.mul_nonneg hb1.1 (by omega)
  have hc8 : IntKind.i64.wrap (8 * (i : Int)) = ((8 * i : Nat) : Int) := by rw [wrap_i64]; split <;> omega
  have hS1 : ∀ w, (binOp .shl 28 (.int .u64 B) (.int .i64 (IntKind.i64.wrap (8 * (i : Int))))).run Try.prog w = .ok (.int .u64 (B * 2 ^ (8 * i))) w := shl64 B _ (8 * i) hc8 (by omega) h4 (by omega)
  have hS2 : ∀ w, (binOp .or 28 (.int .u64 gv) (.int .u64 (B * 2 ^ (8 * i)))).run Try.prog w = .ok (.int .u64 (gv + B * 2 ^ (8 * i))) w := or64 gv B (8 * i) (by omega) v0 v1 hb1.1 hb1.2
  obtain ⟨S, hSe⟩ : ∃ S, B * 2 ^ (8 * i) = S := ⟨_, rfl⟩
  rw [hSe] at hS1 hS2 ⊢
  have hM1 : ∀ w, (binOp .shl 5 (.int .u8 1) (.int .i64 (i : Nat))).run Try.prog w = .ok (.int .u8 (2 ^ i)) w := shl8 i hi
  have hM2 : ∀ w, (binOp .or 5 (.int .u8 gm) (.int .u8 (2 ^ i))).run Try.prog w = .ok (.int .u8 (gm + 2 ^ i)) w := or8 gm i hi m0 m1
  obtain ⟨M, hMe⟩ : ∃ M : Int, 2 ^ i = M := ⟨_, rfl⟩
  rw [hMe] at hM1 hM2 ⊢
  have hY := hY0
  have hB := hB0
  clear m0 m1 v0 v1 hb2 p2 hW hY0 yb0 yb1 hB0 hYe p3 p4 h3 h4 hc8 hSe hMe hBe hb1 hDe
  have hR := Heap.rq hk h.tail.tail.tail
  obtain ⟨q0, _, hbl⟩ := hR.c0
  obtain ⟨xe, hxe⟩ : ∃ x, bs[n]? = some x := ⟨_, List.getElem?_eq_getElem (by rw [hk.lenl]; exact hnl)⟩
  obtain ⟨g', o', xs, hA, hxs, hgl, hg, hxl, hxb⟩ := hR.ent_at hs
  injection hA with hA
  injection hA with hA1 hA2
  subst hA1 hA2
  obtain ⟨_, _, _, _, d4, _, _, _, _⟩ := cells9 hxb
  obtain ⟨cg0, cg1, cg2, fg0, fg1, fg2⟩ := cells3f (h.f2).heap
  obtain ⟨c0, _⟩ := cells1 h.heap
  have hl0 := lt_of_heap' h.heap
  obtain ⟨c1, f1⟩ := cells1 h.f3.heap
  have hl1 := lt_of_heap' h.f2.heap
  unfold ptr at hg c0
  have H := hide h
  have HK := hide hk
  have He := hide he
  have Hs := hide hs
  have Hxs := hide hxs
  have Hxe := hide hxe
  clear h hk he hs hxs hxe hR hxb heo hso
  unfold ptr
  go_enter Try.func42, Try.ntmps42
  cases gw with
  | true =>
    go_wp2
    have hY1 : Heap w0 (w.setCell ⟨kG, 0, none⟩ (.bool true)) (HP.blk kQ #[ptr b] 24 :: HP.blk kG #[.bool true, .int .u8 gm, .int .u64 gv] 37 :: HP.blk kN #[.int .i64 (n : Nat)] 3 :: O b (some ⟨g, o, none⟩) cap bs q L) := Heap.f2 ((Heap.f2 (unhide H)).set 0 (.bool true))
    clear q0 hbl hgl hg hxl d4 c0 hl0 c1 f1 hl1 cg0 cg1 cg2 fg0 fg1 fg2
    refine wp_region_E (fun w_ => Heap w0 w_ (HP.blk kQ #[ptr b] 24 :: HP.blk kG #[.bool true, .int .u8 gm, .int .u64 gv] 37 :: HP.blk kN #[.int .i64 (n : Nat)] 3 :: O b (some ⟨g, o, none⟩) cap bs q L)) (fun _ _ => True) (fun k_ v_ w_ => match k_ with
        | 0 => v_ = .pointer (some ⟨kG, 1, none⟩)
        | 1 => v_ = .int .u8 gm
        | 2 => v_ = .int .i64 (i : Nat)
        | 3 => v_ = .int .u8 M
        | 4 => v_ = .int .u8 (gm + M)
        | _ => v_ = .pointer (some ⟨kG, 1, none⟩)) fol (by kernel_rfl) ?_ ?_ (n := 6) rfl rfl rfl (by kernel_rfl) ?_ ?_
    · exact hY1.drew
    · intro k_ v_ w_ w2_ h1 hg
      split at h1 <;> exact h1
    · intro vals
      show wpG _ _ _ _ _ _ 0 (_ :: _) _
      refine wpG_cons (gval (.pointer (some ⟨kG, 1, none⟩)) (fun _ => trivial) fun w_ hJ hd => ?_) ?_
      · exact ⟨by kernel_rfl, by kernel_rfl, rfl⟩
      refine wpG_cons (gop (Instr.loadAt 5 (.pointer (some ⟨kG, 1, none⟩))) (.int .u8 gm) (fun _ => trivial) fun w_ hJ hd => ?_) ?_
      · have e0 : vals 0 = _ := hd 0 (by decide) (by kernel_rfl)
        rw [e0]
        exact ⟨by kernel_rfl, by kernel_rfl, run_load1 (by kernel_rfl) (cells3f hJ.f2.heap).2.1, rfl⟩
      refine wpG_cons (gval (.int .i64 (i : Nat)) (fun _ => trivial) fun w_ hJ hd => ?_) ?_
      · exact ⟨by kernel_rfl, by kernel_rfl, rfl⟩
      refine wpG_cons (gop (binOp .shl 5 (.int .u8 1) (.int .i64 (i : Nat))) (.int .u8 M) (fun _ => trivial) fun w_ hJ hd => ?_) ?_
      · have e2 : vals 2 = _ := hd 2 (by decide) (by kernel_rfl)
        rw [e2]
        exact ⟨by kernel_rfl, by kernel_rfl, hM1 w_, rfl⟩
      refine wpG_cons (gop (binOp .or 5 (.int .u8 gm) (.int .u8 M)) (.int .u8 (gm + M)) (fun _ => trivial) fun w_ hJ hd => ?_) ?_
      · have e1 : vals 1 = _ := hd 1 (by decide) (by kernel_rfl)
        have e3 : vals 3 = _ := hd 3 (by decide) (by kernel_rfl)
        rw [e1, e3]
        exact ⟨by kernel_rfl, by kernel_rfl, hM2 w_, rfl⟩
      refine wpG_cons (gval (.pointer (some ⟨kG, 1, none⟩)) (fun _ => trivial) fun w_ hJ hd => ?_) wpG_nil
      · exact ⟨by kernel_rfl, by kernel_rfl, rfl⟩
    · intro vals w_ hJ hf
      have e0 : vals 0 = _ := hf 0 (by decide)
      have e1 : vals 1 = _ := hf 1 (by decide)
      have e2 : vals 2 = _ := hf 2 (by decide)
      have e3 : vals 3 = _ := hf 3 (by decide)
      have e4 : vals 4 = _ := hf 4 (by decide)
      have e5 : vals 5 = _ := hf 5 (by decide)
      show Oper.wp _ _ (fillG vals 0 (_ :: _ :: _ :: _ :: _ :: _ :: []) _) _ _ _
      simp only [fillG, Nat.zero_add, Nat.reduceAdd, e0, e1, e2, e3, e4, e5, Act.put, List.setIfInBounds_toArray, List.set_cons_succ, List.set_cons_zero]
      clear e0 e1 e2 e3 e4 e5 hf
      refine wp_last_skip (w' := w_.setCell ⟨kG, 1, none⟩ (.int .u8 (gm + M))) (m := Instr.storeAt 5 (.pointer (some ⟨kG, 1, none⟩)) (.int .u8 (gm + M))) (by kernel_rfl) (run_store1 (by kernel_rfl) rfl rfl (cells3f hJ.f2.heap).2.1 (cells3f hJ.f2.heap).2.2.2.2.1) ?_
      first | show Exit.then _ _ Exit.normal (Act.put ⟨_, _⟩ none _) _ | show Exit.inBlock _ _ Exit.normal (Act.put ⟨_, _⟩ none _) _ | skip
      simp only [Act.put]
      have hY2 : Heap w0 (w_.setCell ⟨kG, 1, none⟩ (.int .u8 (gm + M))) (HP.blk kQ #[ptr b] 24 :: HP.blk kG #[.bool true, .int .u8 (gm + M), .int .u64 gv] 37 :: HP.blk kN #[.int .i64 (n : Nat)] 3 :: O b (some ⟨g, o, none⟩) cap bs q L) := (Heap.f2 ((Heap.f2 hJ).set 1 (.int .u8 (gm + M))))
      generalize w_.setCell ⟨kG, 1, none⟩ (.int .u8 (gm + M)) = wB at *
      clear hJ hY1
      go_wp2
      have G1 : ∀ w_, Heap w0 w_ (HP.blk kQ #[ptr b] 24 :: HP.blk kG #[.bool true, .int .u8 (gm + M), .int .u64 gv] 37 :: HP.blk kN #[.int .i64 (n : Nat)] 3 :: O b (some ⟨g, o, none⟩) cap bs q L) → w_.cell? ⟨xs, 8, none⟩ = some (.int .u64 s.v) := fun w_ hJ => (cells9 ((Heap.f6 hJ).ents_get (unhide Hxs) (unhide Hs))).2.2.2.2.2.2.2.2
      have G2 : ∀ w_, Heap w0 w_ (HP.blk kQ #[ptr b] 24 :: HP.blk kG #[.bool true, .int .u8 (gm + M), .int .u64 gv] 37 :: HP.blk kN #[.int .i64 (n : Nat)] 3 :: O b (some ⟨g, o, none⟩) cap bs q L) → w_.cell? ⟨b, 0, none⟩ = some (.slice (some ⟨g, o, none⟩) q.l.length cap) := fun w_ hJ => (Heap.rq (unhide HK) hJ.tail.tail.tail).c0.1
      have G3 : ∀ w_, Heap w0 w_ (HP.blk kQ #[ptr b] 24 :: HP.blk kG #[.bool true, .int .u8 (gm + M), .int .u64 gv] 37 :: HP.blk kN #[.int .i64 (n : Nat)] 3 :: O b (some ⟨g, o, none⟩) cap bs q L) → w_.cell? ⟨g, o + n, none⟩ = some (.pointer (some ⟨xe, 0, none⟩)) := fun w_ hJ => gptr (Heap.rq (unhide HK) hJ.tail.tail.tail) (unhide He) (unhide Hxe)
      have G4 : ∀ w_, Heap w0 w_ (HP.blk kQ #[ptr b] 24 :: HP.blk kG #[.bool true, .int .u8 (gm + M), .int .u64 gv] 37 :: HP.blk kN #[.int .i64 (n : Nat)] 3 :: O b (some ⟨g, o, none⟩) cap bs q L) → w_.cell? ⟨xe, 6, none⟩ = some (.int .u64 e.at_) := fun w_ hJ => (cells9 ((Heap.f6 hJ).ents_get (unhide Hxe) (unhide He))).2.2.2.2.2.2.1
      have G5 : ∀ w_, Heap w0 w_ (HP.blk kQ #[ptr b] 24 :: HP.blk kG #[.bool true, .int .u8 (gm + M), .int .u64 gv] 37 :: HP.blk kN #[.int .i64 (n : Nat)] 3 :: O b (some ⟨g, o, none⟩) cap bs q L) → w_.cell? ⟨xs, 6, none⟩ = some (.int .u64 s.at_) := fun w_ hJ => (cells9 ((Heap.f6 hJ).ents_get (unhide Hxs) (unhide Hs))).2.2.2.2.2.2.1
      refine wp_region_E (fun w_ => Heap w0 w_ (HP.blk kQ #[ptr b] 24 :: HP.blk kG #[.bool true, .int .u8 (gm + M), .int .u64 gv] 37 :: HP.blk kN #[.int .i64 (n : Nat)] 3 :: O b (some ⟨g, o, none⟩) cap bs q L)) (fun _ _ => True) (fun k_ v_ w_ => match k_ with
          | 0 => v_ = .pointer (some ⟨kG, 2, none⟩)
          | 1 => v_ = .int .u64 (gv)
          | 2 => v_ = .pointer (some ⟨xs, 0, none⟩)
          | 3 => v_ = .pointer (some ⟨xs, 0, none⟩)
          | 4 => v_ = .pointer (some ⟨xs, 8, none⟩)
          | 5 => v_ = .int .u64 (s.v)
          | 6 => v_ = .pointer (some ⟨b, 0, none⟩)
          | 7 => v_ = .pointer (some ⟨b, 0, none⟩)
          | 8 => v_ = .pointer (some ⟨b, 0, none⟩)
          | 9 => v_ = .slice (some ⟨g, o, none⟩) q.l.length cap
          | 10 => v_ = .int .i64 (n : Nat)
          | 11 => v_ = .pointer (some ⟨g, o + n, none⟩)
          | 12 => v_ = .pointer (some ⟨xe, 0, none⟩)
          | 13 => v_ = .pointer (some ⟨xe, 0, none⟩)
          | 14 => v_ = .pointer (some ⟨xe, 6, none⟩)
          | 15 => v_ = .int .u64 (e.at_)
          | 16 => v_ = .int .i64 (i : Nat)
          | 17 => v_ = .int .u64 (IntKind.u64.wrap (i : Int))
          | 18 => v_ = .int .u64 (IntKind.u64.wrap (e.at_ + IntKind.u64.wrap (i : Int)))
          | 19 => v_ = .pointer (some ⟨xs, 0, none⟩)
          | 20 => v_ = .pointer (some ⟨xs, 0, none⟩)
          | 21 => v_ = .pointer (some ⟨xs, 6, none⟩)
          | 22 => v_ = .int .u64 (s.at_)
          | 23 => v_ = .int .u64 (IntKind.u64.wrap (IntKind.u64.wrap (e.at_ + IntKind.u64.wrap (i : Int)) - s.at_))
          | 24 => v_ = .int .u64 (IntKind.u64.wrap (8 * IntKind.u64.wrap (IntKind.u64.wrap (e.at_ + IntKind.u64.wrap (i : Int)) - s.at_)))
          | 25 => v_ = .int .u64 (Y)
          | 26 => v_ = .int .u64 (B)
          | 27 => v_ = .int .i64 (i : Nat)
          | 28 => v_ = .int .i64 (IntKind.i64.wrap (8 * (i : Int)))
          | 29 => v_ = .int .u64 (S)
          | 30 => v_ = .int .u64 (gv + S)
          | _ => v_ = .pointer (some ⟨kG, 2, none⟩)) fol (by kernel_rfl) ?_ ?_ (n := 32) rfl rfl rfl (by kernel_rfl) ?_ ?_
      · exact hY2.drew
      · intro k_ v_ w_ w2_ h1 hg
        split at h1 <;> exact h1
      · intro vals
        show wpG _ _ _ _ _ _ 0 (_ :: _) _
        refine wpG_cons (gval (.pointer (some ⟨kG, 2, none⟩)) (fun _ => trivial) fun w_ hJ hd => ?_) ?_
        · exact ⟨by kernel_rfl, by kernel_rfl, rfl⟩
        refine wpG_cons (gop (Instr.loadAt 28 (.pointer (some ⟨kG, 2, none⟩))) (.int .u64 (gv)) (fun _ => trivial) fun w_ hJ hd => ?_) ?_
        · have e0 : vals 0 = _ := hd 0 (by decide) (by kernel_rfl)
          rw [e0]
          exact ⟨by kernel_rfl, by kernel_rfl, run_load1 (by kernel_rfl) (cells3f hJ.f2.heap).2.2.1, rfl⟩
        refine wpG_cons (gval (.pointer (some ⟨xs, 0, none⟩)) (fun _ => trivial) fun w_ hJ hd => ?_) ?_
        · exact ⟨by kernel_rfl, by kernel_rfl, rfl⟩
        refine wpG_cons (gval (.pointer (some ⟨xs, 0, none⟩)) (fun _ => trivial) fun w_ hJ hd => ?_) ?_
        · have e2 : vals 2 = _ := hd 2 (by decide) (by kernel_rfl)
          rw [e2]
          exact ⟨by kernel_rfl, by kernel_rfl, rfl⟩
        refine wpG_cons (gval (.pointer (some ⟨xs, 8, none⟩)) (fun _ => trivial) fun w_ hJ hd => ?_) ?_
        · have e3 : vals 3 = _ := hd 3 (by decide) (by kernel_rfl)
          rw [e3]
          exact ⟨by kernel_rfl, by kernel_rfl, rfl⟩
        refine wpG_cons (gop (Instr.loadAt 28 (.pointer (some ⟨xs, 8, none⟩))) (.int .u64 (s.v)) (fun _ => trivial) fun w_ hJ hd => ?_) ?_
        · have e4 : vals 4 = _ := hd 4 (by decide) (by kernel_rfl)
          rw [e4]
          exact ⟨by kernel_rfl, by kernel_rfl, run_load1 (by kernel_rfl) (G1 w_ hJ), rfl⟩
        refine wpG_cons (gop (Instr.loadAt 24 (.pointer (some ⟨kQ, 0, none⟩))) (.pointer (some ⟨b, 0, none⟩)) (fun _ => trivial) fun w_ hJ hd => ?_) ?_
        · exact ⟨by kernel_rfl, by kernel_rfl, run_load1 (by kernel_rfl) (cells1 hJ.heap).1, rfl⟩
        refine wpG_cons (gval (.pointer (some ⟨b, 0, none⟩)) (fun _ => trivial) fun w_ hJ hd => ?_) ?_
        · have e6 : vals 6 = _ := hd 6 (by decide) (by kernel_rfl)
          rw [e6]
          exact ⟨by kernel_rfl, by kernel_rfl, rfl⟩
        refine wpG_cons (gval (.pointer (some ⟨b, 0, none⟩)) (fun _ => trivial) fun w_ hJ hd => ?_) ?_
        · have e7 : vals 7 = _ := hd 7 (by decide) (by kernel_rfl)
          rw [e7]
          exact ⟨by kernel_rfl, by kernel_rfl, rfl⟩
        refine wpG_cons (gop (Instr.loadAt 64 (.pointer (some ⟨b, 0, none⟩))) (.slice (some ⟨g, o, none⟩) q.l.length cap) (fun _ => trivial) fun w_ hJ hd => ?_) ?_
        · have e8 : vals 8 = _ := hd 8 (by decide) (by kernel_rfl)
          rw [e8]
          exact ⟨by kernel_rfl, by kernel_rfl, run_load1 (by kernel_rfl) (G2 w_ hJ), rfl⟩
        refine wpG_cons (gop (Instr.loadAt 3 (.pointer (some ⟨kN, 0, none⟩))) (.int .i64 (n : Nat)) (fun _ => trivial) fun w_ hJ hd => ?_) ?_
        · exact ⟨by kernel_rfl, by kernel_rfl, run_load1 (by kernel_rfl) (cells1 hJ.f3.heap).1, rfl⟩
        refine wpG_cons (gop (Instr.indexAt 64 (.slice (some ⟨g, o, none⟩) q.l.length cap) (.int .i64 (n : Nat))) (.pointer (some ⟨g, o + n, none⟩)) (fun _ => trivial) fun w_ hJ hd => ?_) ?_
        · have e9 : vals 9 = _ := hd 9 (by decide) (by kernel_rfl)
          have e10 : vals 10 = _ := hd 10 (by decide) (by kernel_rfl)
          rw [e9, e10]
          exact ⟨by kernel_rfl, by kernel_rfl, (run_ixat 64 74 1 Try.underlying64 (by kernel_rfl) _ _ _ _ _ hnl w_).trans (by rw [Nat.mul_one]), rfl⟩
        refine wpG_cons (gop (Instr.loadAt 74 (.pointer (some ⟨g, o + n, none⟩))) (.pointer (some ⟨xe, 0, none⟩)) (fun _ => trivial) fun w_ hJ hd => ?_) ?_
        · have e11 : vals 11 = _ := hd 11 (by decide) (by kernel_rfl)
          rw [e11]
          exact ⟨by kernel_rfl, by kernel_rfl, run_load1 (by kernel_rfl) (G3 w_ hJ), rfl⟩
        refine wpG_cons (gval (.pointer (some ⟨xe, 0, none⟩)) (fun _ => trivial) fun w_ hJ hd => ?_) ?_
        · have e12 : vals 12 = _ := hd 12 (by decide) (by kernel_rfl)
          rw [e12]
          exact ⟨by kernel_rfl, by kernel_rfl, rfl⟩
        refine wpG_cons (gval (.pointer (some ⟨xe, 6, none⟩)) (fun _ => trivial) fun w_ hJ hd => ?_) ?_
        · have e13 : vals 13 = _ := hd 13 (by decide) (by kernel_rfl)
          rw [e13]
          exact ⟨by kernel_rfl, by kernel_rfl, rfl⟩
        refine wpG_cons (gop (Instr.loadAt 28 (.pointer (some ⟨xe, 6, none⟩))) (.int .u64 (e.at_)) (fun _ => trivial) fun w_ hJ hd => ?_) ?_
        · have e14 : vals 14 = _ := hd 14 (by decide) (by kernel_rfl)
          rw [e14]
          exact ⟨by kernel_rfl, by kernel_rfl, run_load1 (by kernel_rfl) (G4 w_ hJ), rfl⟩
        refine wpG_cons (gval (.int .i64 (i : Nat)) (fun _ => trivial) fun w_ hJ hd => ?_) ?_
        · exact ⟨by kernel_rfl, by kernel_rfl, rfl⟩
        refine wpG_cons (gval (.int .u64 (IntKind.u64.wrap (i : Int))) (fun _ => trivial) fun w_ hJ hd => ?_) ?_
        · have e16 : vals 16 = _ := hd 16 (by decide) (by kernel_rfl)
          rw [e16]
          exact ⟨by kernel_rfl, by kernel_rfl, rfl⟩
        refine wpG_cons (gval (.int .u64 (IntKind.u64.wrap (e.at_ + IntKind.u64.wrap (i : Int)))) (fun _ => trivial) fun w_ hJ hd => ?_) ?_
        · have e15 : vals 15 = _ := hd 15 (by decide) (by kernel_rfl)
          have e17 : vals 17 = _ := hd 17 (by decide) (by kernel_rfl)
          rw [e15, e17]
          exact ⟨by kernel_rfl, by kernel_rfl, rfl⟩
        refine wpG_cons (gval (.pointer (some ⟨xs, 0, none⟩)) (fun _ => trivial) fun w_ hJ hd => ?_) ?_
        · exact ⟨by kernel_rfl, by kernel_rfl, rfl⟩
        refine wpG_cons (gval (.pointer (some ⟨xs, 0, none⟩)) (fun _ => trivial) fun w_ hJ hd => ?_) ?_
        · have e19 : vals 19 = _ := hd 19 (by decide) (by kernel_rfl)
          rw [e19]
          exact ⟨by kernel_rfl, by kernel_rfl, rfl⟩
        refine wpG_cons (gval (.pointer (some ⟨xs, 6, none⟩)) (fun _ => trivial) fun w_ hJ hd => ?_) ?_
        · have e20 : vals 20 = _ := hd 20 (by decide) (by kernel_rfl)
          rw [e20]
          exact ⟨by kernel_rfl, by kernel_rfl, rfl⟩
        refine wpG_cons (gop (Instr.loadAt 28 (.pointer (some ⟨xs, 6, none⟩))) (.int .u64 (s.at_)) (fun _ => trivial) fun w_ hJ hd => ?_) ?_
        · have e21 : vals 21 = _ := hd 21 (by decide) (by kernel_rfl)
          rw [e21]
          exact ⟨by kernel_rfl, by kernel_rfl, run_load1 (by kernel_rfl) (G5 w_ hJ), rfl⟩
        refine wpG_cons (gval (.int .u64 (IntKind.u64.wrap (IntKind.u64.wrap (e.at_ + IntKind.u64.wrap (i : Int)) - s.at_))) (fun _ => trivial) fun w_ hJ hd => ?_) ?_
        · have e18 : vals 18 = _ := hd 18 (by decide) (by kernel_rfl)
          have e22 : vals 22 = _ := hd 22 (by decide) (by kernel_rfl)
          rw [e18, e22]
          exact ⟨by kernel_rfl, by kernel_rfl, rfl⟩
        refine wpG_cons (gval (.int .u64 (IntKind.u64.wrap (8 * IntKind.u64.wrap (IntKind.u64.wrap (e.at_ + IntKind.u64.wrap (i : Int)) - s.at_)))) (fun _ => trivial) fun w_ hJ hd => ?_) ?_
        · have e23 : vals 23 = _ := hd 23 (by decide) (by kernel_rfl)
          rw [e23]
          exact ⟨by kernel_rfl, by kernel_rfl, rfl⟩
        refine wpG_cons (gop (binOp .shr 28 (.int .u64 s.v) (.int .u64 (IntKind.u64.wrap (8 * IntKind.u64.wrap (IntKind.u64.wrap (e.at_ + IntKind.u64.wrap (i : Int)) - s.at_))))) (.int .u64 (Y)) (fun _ => trivial) fun w_ hJ hd => ?_) ?_
        · have e5 : vals 5 = _ := hd 5 (by decide) (by kernel_rfl)
          have e24 : vals 24 = _ := hd 24 (by decide) (by kernel_rfl)
          rw [e5, e24]
          exact ⟨by kernel_rfl, by kernel_rfl, hY w_, rfl⟩
        refine wpG_cons (gop (binOp .and 28 (.int .u64 Y) (.int .u64 255)) (.int .u64 (B)) (fun _ => trivial) fun w_ hJ hd => ?_) ?_
        · have e25 : vals 25 = _ := hd 25 (by decide) (by kernel_rfl)
          rw [e25]
          exact ⟨by kernel_rfl, by kernel_rfl, hB w_, rfl⟩
        refine wpG_cons (gval (.int .i64 (i : Nat)) (fun _ => trivial) fun w_ hJ hd => ?_) ?_
        · exact ⟨by kernel_rfl, by kernel_rfl, rfl⟩
        refine wpG_cons (gval (.int .i64 (IntKind.i64.wrap (8 * (i : Int)))) (fun _ => trivial) fun w_ hJ hd => ?_) ?_
        · have e27 : vals 27 = _ := hd 27 (by decide) (by kernel_rfl)
          rw [e27]
          exact ⟨by kernel_rfl, by kernel_rfl, rfl⟩
        refine wpG_cons (gop (binOp .shl 28 (.int .u64 B) (.int .i64 (IntKind.i64.wrap (8 * (i : Int))))) (.int .u64 (S)) (fun _ => trivial) fun w_ hJ hd => ?_) ?_
        · have e26 : vals 26 = _ := hd 26 (by decide) (by kernel_rfl)
          have e28 : vals 28 = _ := hd 28 (by decide) (by kernel_rfl)
          rw [e26, e28]
          exact ⟨by kernel_rfl, by kernel_rfl, hS1 w_, rfl⟩
        refine wpG_cons (gop (binOp .or 28 (.int .u64 gv) (.int .u64 S)) (.int .u64 (gv + S)) (fun _ => trivial) fun w_ hJ hd => ?_) ?_
        · have e1 : vals 1 = _ := hd 1 (by decide) (by kernel_rfl)
          have e29 : vals 29 = _ := hd 29 (by decide) (by kernel_rfl)
          rw [e1, e29]
          exact ⟨by kernel_rfl, by kernel_rfl, hS2 w_, rfl⟩
        refine wpG_cons (gval (.pointer (some ⟨kG, 2, none⟩)) (fun _ => trivial) fun w_ hJ hd => ?_) wpG_nil
        · exact ⟨by kernel_rfl, by kernel_rfl, rfl⟩
      · intro vals w_ hJ hf
        have e0 : vals 0 = _ := hf 0 (by decide)
        have e1 : vals 1 = _ := hf 1 (by decide)
        have e2 : vals 2 = _ := hf 2 (by decide)
        have e3 : vals 3 = _ := hf 3 (by decide)
        have e4 : vals 4 = _ := hf 4 (by decide)
        have e5 : vals 5 = _ := hf 5 (by decide)
        have e6 : vals 6 = _ := hf 6 (by decide)
        have e7 : vals 7 = _ := hf 7 (by decide)
        have e8 : vals 8 = _ := hf 8 (by decide)
        have e9 : vals 9 = _ := hf 9 (by decide)
        have e10 : vals 10 = _ := hf 10 (by decide)
        have e11 : vals 11 = _ := hf 11 (by decide)
        have e12 : vals 12 = _ := hf 12 (by decide)
        have e13 : vals 13 = _ := hf 13 (by decide)
        have e14 : vals 14 = _ := hf 14 (by decide)
        have e15 : vals 15 = _ := hf 15 (by decide)
        have e16 : vals 16 = _ := hf 16 (by decide)
        have e17 : vals 17 = _ := hf 17 (by decide)
        have e18 : vals 18 = _ := hf 18 (by decide)
        have e19 : vals 19 = _ := hf 19 (by decide)
        have e20 : vals 20 = _ := hf 20 (by decide)
        have e21 : vals 21 = _ := hf 21 (by decide)
        have e22 : vals 22 = _ := hf 22 (by decide)
        have e23 : vals 23 = _ := hf 23 (by decide)
        have e24 : vals 24 = _ := hf 24 (by decide)
        have e25 : vals 25 = _ := hf 25 (by decide)
        have e26 : vals 26 = _ := hf 26 (by decide)
        have e27 : vals 27 = _ := hf 27 (by decide)
        have e28 : vals 28 = _ := hf 28 (by decide)
        have e29 : vals 29 = _ := hf 29 (by decide)
        have e30 : vals 30 = _ := hf 30 (by decide)
        have e31 : vals 31 = _ := hf 31 (by decide)
        show Oper.wp _ _ (fillG vals 0 (_ :: _ :: _ :: _ :: _ :: _ :: _ :: _ :: _ :: _ :: _ :: _ :: _ :: _ :: _ :: _ :: _ :: _ :: _ :: _ :: _ :: _ :: _ :: _ :: _ :: _ :: _ :: _ :: _ :: _ :: _ :: _ :: []) _) _ _ _
        simp only [fillG, Nat.zero_add, Nat.reduceAdd, e0, e1, e2, e3, e4, e5, e6, e7, e8, e9, e10, e11, e12, e13, e14, e15, e16, e17, e18, e19, e20, e21, e22, e23, e24, e25, e26, e27, e28, e29, e30, e31, Act.put, List.setIfInBounds_toArray, List.set_cons_succ, List.set_cons_zero]
        clear e0 e1 e2 e3 e4 e5 e6 e7 e8 e9 e10 e11 e12 e13 e14 e15 e16 e17 e18 e19 e20 e21 e22 e23 e24 e25 e26 e27 e28 e29 e30 e31 hf
        refine wp_last_skip (w' := w_.setCell ⟨kG, 2, none⟩ (.int .u64 (gv + S))) (m := Instr.storeAt 28 (.pointer (some ⟨kG, 2, none⟩)) (.int .u64 (gv + S))) (by kernel_rfl) (run_store1 (by kernel_rfl) rfl rfl (cells3f hJ.f2.heap).2.2.1 (cells3f hJ.f2.heap).2.2.2.2.2) ?_
        first | show Exit.then _ _ Exit.normal (Act.put ⟨_, _⟩ none _) _ | show Exit.inBlock _ _ Exit.normal (Act.put ⟨_, _⟩ none _) _ | skip
        simp only [Act.put]
        have hY3 : Heap w0 (w_.setCell ⟨kG, 2, none⟩ (.int .u64 (gv + S))) (HP.blk kQ #[ptr b] 24 :: HP.blk kG #[.bool true, .int .u8 (gm + M), .int .u64 (gv + S)] 37 :: HP.blk kN #[.int .i64 (n : Nat)] 3 :: O b (some ⟨g, o, none⟩) cap bs q L) := (Heap.f2 ((Heap.f2 hJ).set 2 (.int .u64 (gv + S))))
        exact bodyPost_end (v := .tuple #[]) (by simp [results, Try.results42, go_sem]) rfl ⟨rfl, hY3⟩
  | false =>
    go_wp2
    have hY1 : Heap w0 (w.setCell ⟨kG, 0, none⟩ (.bool (!s.data))) (HP.blk kQ #[ptr b] 24 :: HP.blk kG #[.bool (!s.data), .int .u8 gm, .int .u64 gv] 37 :: HP.blk kN #[.int .i64 (n : Nat)] 3 :: O b (some ⟨g, o, none⟩) cap bs q L) := Heap.f2 ((Heap.f2 (unhide H)).set 0 (.bool (!s.data)))
    clear q0 hbl hgl hg hxl d4 c0 hl0 c1 f1 hl1 cg0 cg1 cg2 fg0 fg1 fg2
    refine wp_region_E (fun w_ => Heap w0 w_ (HP.blk kQ #[ptr b] 24 :: HP.blk kG #[.bool (!s.data), .int .u8 gm, .int .u64 gv] 37 :: HP.blk kN #[.int .i64 (n : Nat)] 3 :: O b (some ⟨g, o, none⟩) cap bs q L)) (fun _ _ => True) (fun k_ v_ w_ => match k_ with
        | 0 => v_ = .pointer (some ⟨kG, 1, none⟩)
        | 1 => v_ = .int .u8 gm
        | 2 => v_ = .int .i64 (i : Nat)
        | 3 => v_ = .int .u8 M
        | 4 => v_ = .int .u8 (gm + M)
        | _ => v_ = .pointer (some ⟨kG, 1, none⟩)) fol (by kernel_rfl) ?_ ?_ (n := 6) rfl rfl rfl (by kernel_rfl) ?_ ?_
    · exact hY1.drew
    · intro k_ v_ w_ w2_ h1 hg
      split at h1 <;> exact h1
    · intro vals
      show wpG _ _ _ _ _ _ 0 (_ :: _) _
      refine wpG_cons (gval (.pointer (some ⟨kG, 1, none⟩)) (fun _ => trivial) fun w_ hJ hd => ?_) ?_
      · exact ⟨by kernel_rfl, by kernel_rfl, rfl⟩
      refine wpG_cons (gop (Instr.loadAt 5 (.pointer (some ⟨kG, 1, none⟩))) (.int .u8 gm) (fun _ => trivial) fun w_ hJ hd => ?_) ?_
      · have e0 : vals 0 = _ := hd 0 (by decide) (by kernel_rfl)
        rw [e0]
        exact ⟨by kernel_rfl, by kernel_rfl, run_load1 (by kernel_rfl) (cells3f hJ.f2.heap).2.1, rfl⟩
      refine wpG_cons (gval (.int .i64 (i : Nat)) (fun _ => trivial) fun w_ hJ hd => ?_) ?_
      · exact ⟨by kernel_rfl, by kernel_rfl, rfl⟩
      refine wpG_cons (gop (binOp .shl 5 (.int .u8 1) (.int .i64 (i : Nat))) (.int .u8 M) (fun _ => trivial) fun w_ hJ hd => ?_) ?_
      · have e2 : vals 2 = _ := hd 2 (by decide) (by kernel_rfl)
        rw [e2]
        exact ⟨by kernel_rfl, by kernel_rfl, hM1 w_, rfl⟩
      refine wpG_cons (gop (binOp .or 5 (.int .u8 gm) (.int .u8 M)) (.int .u8 (gm + M)) (fun _ => trivial) fun w_ hJ hd => ?_) ?_
      · have e1 : vals 1 = _ := hd 1 (by decide) (by kernel_rfl)
        have e3 : vals 3 = _ := hd 3 (by decide) (by kernel_rfl)
        rw [e1, e3]
        exact ⟨by kernel_rfl, by kernel_rfl, hM2 w_, rfl⟩
      refine wpG_cons (gval (.pointer (some ⟨kG, 1, none⟩)) (fun _ => trivial) fun w_ hJ hd => ?_) wpG_nil
      · exact ⟨by kernel_rfl, by kernel_rfl, rfl⟩
    · intro vals w_ hJ hf
      have e0 : vals 0 = _ := hf 0 (by decide)
      have e1 : vals 1 = _ := hf 1 (by decide)
      have e2 : vals 2 = _ := hf 2 (by decide)
      have e3 : vals 3 = _ := hf 3 (by decide)
      have e4 : vals 4 = _ := hf 4 (by decide)
      have e5 : vals 5 = _ := hf 5 (by decide)
      show Oper.wp _ _ (fillG vals 0 (_ :: _ :: _ :: _ :: _ :: _ :: []) _) _ _ _
      simp only [fillG, Nat.zero_add, Nat.reduceAdd, e0, e1, e2, e3, e4, e5, Act.put, List.setIfInBounds_toArray, List.set_cons_succ, List.set_cons_zero]
      clear e0 e1 e2 e3 e4 e5 hf
      refine wp_last_skip (w' := w_.setCell ⟨kG, 1, none⟩ (.int .u8 (gm + M))) (m := Instr.storeAt 5 (.pointer (some ⟨kG, 1, none⟩)) (.int .u8 (gm + M))) (by kernel_rfl) (run_store1 (by kernel_rfl) rfl rfl (cells3f hJ.f2.heap).2.1 (cells3f hJ.f2.heap).2.2.2.2.1) ?_
      first | show Exit.then _ _ Exit.normal (Act.put ⟨_, _⟩ none _) _ | show Exit.inBlock _ _ Exit.normal (Act.put ⟨_, _⟩ none _) _ | skip
      simp only [Act.put]
      have hY2 : Heap w0 (w_.setCell ⟨kG, 1, none⟩ (.int .u8 (gm + M))) (HP.blk kQ #[ptr b] 24 :: HP.blk kG #[.bool (!s.data), .int .u8 (gm + M), .int .u64 gv] 37 :: HP.blk kN #[.int .i64 (n : Nat)] 3 :: O b (some ⟨g, o, none⟩) cap bs q L) := (Heap.f2 ((Heap.f2 hJ).set 1 (.int .u8 (gm + M))))
      generalize w_.setCell ⟨kG, 1, none⟩ (.int .u8 (gm + M)) = wB at *
      clear hJ hY1
      go_wp2
      have G1 : ∀ w_, Heap w0 w_ (HP.blk kQ #[ptr b] 24 :: HP.blk kG #[.bool (!s.data), .int .u8 (gm + M), .int .u64 gv] 37 :: HP.blk kN #[.int .i64 (n : Nat)] 3 :: O b (some ⟨g, o, none⟩) cap bs q L) → w_.cell? ⟨xs, 8, none⟩ = some (.int .u64 s.v) := fun w_ hJ => (cells9 ((Heap.f6 hJ).ents_get (unhide Hxs) (unhide Hs))).2.2.2.2.2.2.2.2
      have G2 : ∀ w_, Heap w0 w_ (HP.blk kQ #[ptr b] 24 :: HP.blk kG #[.bool (!s.data), .int .u8 (gm + M), .int .u64 gv] 37 :: HP.blk kN #[.int .i64 (n : Nat)] 3 :: O b (some ⟨g, o, none⟩) cap bs q L) → w_.cell? ⟨b, 0, none⟩ = some (.slice (some ⟨g, o, none⟩) q.l.length cap) := fun w_ hJ => (Heap.rq (unhide HK) hJ.tail.tail.tail).c0.1
      have G3 : ∀ w_, Heap w0 w_ (HP.blk kQ #[ptr b] 24 :: HP.blk kG #[.bool (!s.data), .int .u8 (gm + M), .int .u64 gv] 37 :: HP.blk kN #[.int .i64 (n : Nat)] 3 :: O b (some ⟨g, o, none⟩) cap bs q L) → w_.cell? ⟨g, o + n, none⟩ = some (.pointer (some ⟨xe, 0, none⟩)) := fun w_ hJ => gptr (Heap.rq (unhide HK) hJ.tail.tail.tail) (unhide He) (unhide Hxe)
      have G4 : ∀ w_, Heap w0 w_ (HP.blk kQ #[ptr b] 24 :: HP.blk kG #[.bool (!s.data), .int .u8 (gm + M), .int .u64 gv] 37 :: HP.blk kN #[.int .i64 (n : Nat)] 3 :: O b (some ⟨g, o, none⟩) cap bs q L) → w_.cell? ⟨xe, 6, none⟩ = some (.int .u64 e.at_) := fun w_ hJ => (cells9 ((Heap.f6 hJ).ents_get (unhide Hxe) (unhide He))).2.2.2.2.2.2.1
      have G5 : ∀ w_, Heap w0 w_ (HP.blk kQ #[ptr b] 24 :: HP.blk kG #[.bool (!s.data), .int .u8 (gm + M), .int .u64 gv] 37 :: HP.blk kN #[.int .i64 (n : Nat)] 3 :: O b (some ⟨g, o, none⟩) cap bs q L) → w_.cell? ⟨xs, 6, none⟩ = some (.int .u64 s.at_) := fun w_ hJ => (cells9 ((Heap.f6 hJ).ents_get (unhide Hxs) (unhide Hs))).2.2.2.2.2.2.1
      refine wp_region_E (fun w_ => Heap w0 w_ (HP.blk kQ #[ptr b] 24 :: HP.blk kG #[.bool (!s.data), .int .u8 (gm + M), .int .u64 gv] 37 :: HP.blk kN #[.int .i64 (n : Nat)] 3 :: O b (some ⟨g, o, none⟩) cap bs q L)) (fun _ _ => True) (fun k_ v_ w_ => match k_ with
          | 0 => v_ = .pointer (some ⟨kG, 2, none⟩)
          | 1 => v_ = .int .u64 (gv)
          | 2 => v_ = .pointer (some ⟨xs, 0, none⟩)
          | 3 => v_ = .pointer (some ⟨xs, 0, none⟩)
          | 4 => v_ = .pointer (some ⟨xs, 8, none⟩)
          | 5 => v_ = .int .u64 (s.v)
          | 6 => v_ = .pointer (some ⟨b, 0, none⟩)
          | 7 => v_ = .pointer (some ⟨b, 0, none⟩)
          | 8 => v_ = .pointer (some ⟨b, 0, none⟩)
          | 9 => v_ = .slice (some ⟨g, o, none⟩) q.l.length cap
          | 10 => v_ = .int .i64 (n : Nat)
          | 11 => v_ = .pointer (some ⟨g, o + n, none⟩)
          | 12 => v_ = .pointer (some ⟨xe, 0, none⟩)
          | 13 => v_ = .pointer (some ⟨xe, 0, none⟩)
          | 14 => v_ = .pointer (some ⟨xe, 6, none⟩)
          | 15 => v_ = .int .u64 (e.at_)
          | 16 => v_ = .int .i64 (i : Nat)
          | 17 => v_ = .int .u64 (IntKind.u64.wrap (i : Int))
          | 18 => v_ = .int .u64 (IntKind.u64.wrap (e.at_ + IntKind.u64.wrap (i : Int)))
          | 19 => v_ = .pointer (some ⟨xs, 0, none⟩)
          | 20 => v_ = .pointer (some ⟨xs, 0, none⟩)
          | 21 => v_ = .pointer (some ⟨xs, 6, none⟩)
          | 22 => v_ = .int .u64 (s.at_)
          | 23 => v_ = .int .u64 (IntKind.u64.wrap (IntKind.u64.wrap (e.at_ + IntKind.u64.wrap (i : Int)) - s.at_))
          | 24 => v_ = .int .u64 (IntKind.u64.wrap (8 * IntKind.u64.wrap (IntKind.u64.wrap (e.at_ + IntKind.u64.wrap (i : Int)) - s.at_)))
          | 25 => v_ = .int .u64 (Y)
          | 26 => v_ = .int .u64 (B)
          | 27 => v_ = .int .i64 (i : Nat)
          | 28 => v_ = .int .i64 (IntKind.i64.wrap (8 * (i : Int)))
          | 29 => v_ = .int .u64 (S)
          | 30 => v_ = .int .u64 (gv + S)
          | _ => v_ = .pointer (some ⟨kG, 2, none⟩)) fol (by kernel_rfl) ?_ ?_ (n := 32) rfl rfl rfl (by kernel_rfl) ?_ ?_
      · exact hY2.drew
      · intro k_ v_ w_ w2_ h1 hg
        split at h1 <;> exact h1
      · intro vals
        show wpG _ _ _ _ _ _ 0 (_ :: _) _
        refine wpG_cons (gval (.pointer (some ⟨kG, 2, none⟩)) (fun _ => trivial) fun w_ hJ hd => ?_) ?_
        · exact ⟨by kernel_rfl, by kernel_rfl, rfl⟩
        refine wpG_cons (gop (Instr.loadAt 28 (.pointer (some ⟨kG, 2, none⟩))) (.int .u64 (gv)) (fun _ => trivial) fun w_ hJ hd => ?_) ?_
        · have e0 : vals 0 = _ := hd 0 (by decide) (by kernel_rfl)
          rw [e0]
          exact ⟨by kernel_rfl, by kernel_rfl, run_load1 (by kernel_rfl) (cells3f hJ.f2.heap).2.2.1, rfl⟩
        refine wpG_cons (gval (.pointer (some ⟨xs, 0, none⟩)) (fun _ => trivial) fun w_ hJ hd => ?_) ?_
        · exact ⟨by kernel_rfl, by kernel_rfl, rfl⟩
        refine wpG_cons (gval (.pointer (some ⟨xs, 0, none⟩)) (fun _ => trivial) fun w_ hJ hd => ?_) ?_
        · have e2 : vals 2 = _ := hd 2 (by decide) (by kernel_rfl)
          rw [e2]
          exact ⟨by kernel_rfl, by kernel_rfl, rfl⟩
        refine wpG_cons (gval (.pointer (some ⟨xs, 8, none⟩)) (fun _ => trivial) fun w_ hJ hd => ?_) ?_
        · have e3 : vals 3 = _ := hd 3 (by decide) (by kernel_rfl)
          rw [e3]
          exact ⟨by kernel_rfl, by kernel_rfl, rfl⟩
        refine wpG_cons (gop (Instr.loadAt 28 (.pointer (some ⟨xs, 8, none⟩))) (.int .u64 (s.v)) (fun _ => trivial) fun w_ hJ hd => ?_) ?_
        · have e4 : vals 4 = _ := hd 4 (by decide) (by kernel_rfl)
          rw [e4]
          exact ⟨by kernel_rfl, by kernel_rfl, run_load1 (by kernel_rfl) (G1 w_ hJ), rfl⟩
        refine wpG_cons (gop (Instr.loadAt 24 (.pointer (some ⟨kQ, 0, none⟩))) (.pointer (some ⟨b, 0, none⟩)) (fun _ => trivial) fun w_ hJ hd => ?_) ?_
        · exact ⟨by kernel_rfl, by kernel_rfl, run_load1 (by kernel_rfl) (cells1 hJ.heap).1, rfl⟩
        refine wpG_cons (gval (.pointer (some ⟨b, 0, none⟩)) (fun _ => trivial) fun w_ hJ hd => ?_) ?_
        · have e6 : vals 6 = _ := hd 6 (by decide) (by kernel_rfl)
          rw [e6]
          exact ⟨by kernel_rfl, by kernel_rfl, rfl⟩
        refine wpG_cons (gval (.pointer (some ⟨b, 0, none⟩)) (fun _ => trivial) fun w_ hJ hd => ?_) ?_
        · have e7 : vals 7 = _ := hd 7 (by decide) (by kernel_rfl)
          rw [e7]
          exact ⟨by kernel_rfl, by kernel_rfl, rfl⟩
        refine wpG_cons (gop (Instr.loadAt 64 (.pointer (some ⟨b, 0, none⟩))) (.slice (some ⟨g, o, none⟩) q.l.length cap) (fun _ => trivial) fun w_ hJ hd => ?_) ?_
        · have e8 : vals 8 = _ := hd 8 (by decide) (by kernel_rfl)
          rw [e8]
          exact ⟨by kernel_rfl, by kernel_rfl, run_load1 (by kernel_rfl) (G2 w_ hJ), rfl⟩
        refine wpG_cons (gop (Instr.loadAt 3 (.pointer (some ⟨kN, 0, none⟩))) (.int .i64 (n : Nat)) (fun _ => trivial) fun w_ hJ hd => ?_) ?_
        · exact ⟨by kernel_rfl, by kernel_rfl, run_load1 (by kernel_rfl) (cells1 hJ.f3.heap).1, rfl⟩
        refine wpG_cons (gop (Instr.indexAt 64 (.slice (some ⟨g, o, none⟩) q.l.length cap) (.int .i64 (n : Nat))) (.pointer (some ⟨g, o + n, none⟩)) (fun _ => trivial) fun w_ hJ hd => ?_) ?_
        · have e9 : vals 9 = _ := hd 9 (by decide) (by kernel_rfl)
          have e10 : vals 10 = _ := hd 10 (by decide) (by kernel_rfl)
          rw [e9, e10]
          exact ⟨by kernel_rfl, by kernel_rfl, (run_ixat 64 74 1 Try.underlying64 (by kernel_rfl) _ _ _ _ _ hnl w_).trans (by rw [Nat.mul_one]), rfl⟩
        refine wpG_cons (gop (Instr.loadAt 74 (.pointer (some ⟨g, o + n, none⟩))) (.pointer (some ⟨xe, 0, none⟩)) (fun _ => trivial) fun w_ hJ hd => ?_) ?_
        · have e11 : vals 11 = _ := hd 11 (by decide) (by kernel_rfl)
          rw [e11]
          exact ⟨by kernel_rfl, by kernel_rfl, run_load1 (by kernel_rfl) (G3 w_ hJ), rfl⟩
        refine wpG_cons (gval (.pointer (some ⟨xe, 0, none⟩)) (fun _ => trivial) fun w_ hJ hd => ?_) ?_
        · have e12 : vals 12 = _ := hd 12 (by decide) (by kernel_rfl)
          rw [e12]
          exact ⟨by kernel_rfl, by kernel_rfl, rfl⟩
        refine wpG_cons (gval (.pointer (some ⟨xe, 6, none⟩)) (fun _ => trivial) fun w_ hJ hd => ?_) ?_
        · have e13 : vals 13 = _ := hd 13 (by decide) (by kernel_rfl)
          rw [e13]
          exact ⟨by kernel_rfl, by kernel_rfl, rfl⟩
        refine wpG_cons (gop (Instr.loadAt 28 (.pointer (some ⟨xe, 6, none⟩))) (.int .u64 (e.at_)) (fun _ => trivial) fun w_ hJ hd => ?_) ?_
        · have e14 : vals 14 = _ := hd 14 (by decide) (by kernel_rfl)
          rw [e14]
          exact ⟨by kernel_rfl, by kernel_rfl, run_load1 (by kernel_rfl) (G4 w_ hJ), rfl⟩
        refine wpG_cons (gval (.int .i64 (i : Nat)) (fun _ => trivial) fun w_ hJ hd => ?_) ?_
        · exact ⟨by kernel_rfl, by kernel_rfl, rfl⟩
        refine wpG_cons (gval (.int .u64 (IntKind.u64.wrap (i : Int))) (fun _ => trivial) fun w_ hJ hd => ?_) ?_
        · have e16 : vals 16 = _ := hd 16 (by decide) (by kernel_rfl)
          rw [e16]
          exact ⟨by kernel_rfl, by kernel_rfl, rfl⟩
        refine wpG_cons (gval (.int .u64 (IntKind.u64.wrap (e.at_ + IntKind.u64.wrap (i : Int)))) (fun _ => trivial) fun w_ hJ hd => ?_) ?_
        · have e15 : vals 15 = _ := hd 15 (by decide) (by kernel_rfl)
          have e17 : vals 17 = _ := hd 17 (by decide) (by kernel_rfl)
          rw [e15, e17]
          exact ⟨by kernel_rfl, by kernel_rfl, rfl⟩
        refine wpG_cons (gval (.pointer (some ⟨xs, 0, none⟩)) (fun _ => trivial) fun w_ hJ hd => ?_) ?_
        · exact ⟨by kernel_rfl, by kernel_rfl, rfl⟩
        refine wpG_cons (gval (.pointer (some ⟨xs, 0, none⟩)) (fun _ => trivial) fun w_ hJ hd => ?_) ?_
        · have e19 : vals 19 = _ := hd 19 (by decide) (by kernel_rfl)
          rw [e19]
          exact ⟨by kernel_rfl, by kernel_rfl, rfl⟩
        refine wpG_cons (gval (.pointer (some ⟨xs, 6, none⟩)) (fun _ => trivial) fun w_ hJ hd => ?_) ?_
        · have e20 : vals 20 = _ := hd 20 (by decide) (by kernel_rfl)
          rw [e20]
          exact ⟨by kernel_rfl, by kernel_rfl, rfl⟩
        refine wpG_cons (gop (Instr.loadAt 28 (.pointer (some ⟨xs, 6, none⟩))) (.int .u64 (s.at_)) (fun _ => trivial) fun w_ hJ hd => ?_) ?_
        · have e21 : vals 21 = _ := hd 21 (by decide) (by kernel_rfl)
          rw [e21]
          exact ⟨by kernel_rfl, by kernel_rfl, run_load1 (by kernel_rfl) (G5 w_ hJ), rfl⟩
        refine wpG_cons (gval (.int .u64 (IntKind.u64.wrap (IntKind.u64.wrap (e.at_ + IntKind.u64.wrap (i : Int)) - s.at_))) (fun _ => trivial) fun w_ hJ hd => ?_) ?_
        · have e18 : vals 18 = _ := hd 18 (by decide) (by kernel_rfl)
          have e22 : vals 22 = _ := hd 22 (by decide) (by kernel_rfl)
          rw [e18, e22]
          exact ⟨by kernel_rfl, by kernel_rfl, rfl⟩
        refine wpG_cons (gval (.int .u64 (IntKind.u64.wrap (8 * IntKind.u64.wrap (IntKind.u64.wrap (e.at_ + IntKind.u64.wrap (i : Int)) - s.at_)))) (fun _ => trivial) fun w_ hJ hd => ?_) ?_
        · have e23 : vals 23 = _ := hd 23 (by decide) (by kernel_rfl)
          rw [e23]
          exact ⟨by kernel_rfl, by kernel_rfl, rfl⟩
        refine wpG_cons (gop (binOp .shr 28 (.int .u64 s.v) (.int .u64 (IntKind.u64.wrap (8 * IntKind.u64.wrap (IntKind.u64.wrap (e.at_ + IntKind.u64.wrap (i : Int)) - s.at_))))) (.int .u64 (Y)) (fun _ => trivial) fun w_ hJ hd => ?_) ?_
        · have e5 : vals 5 = _ := hd 5 (by decide) (by kernel_rfl)
          have e24 : vals 24 = _ := hd 24 (by decide) (by kernel_rfl)
          rw [e5, e24]
          exact ⟨by kernel_rfl, by kernel_rfl, hY w_, rfl⟩
        refine wpG_cons (gop (binOp .and 28 (.int .u64 Y) (.int .u64 255)) (.int .u64 (B)) (fun _ => trivial) fun w_ hJ hd => ?_) ?_
        · have e25 : vals 25 = _ := hd 25 (by decide) (by kernel_rfl)
          rw [e25]
          exact ⟨by kernel_rfl, by kernel_rfl, hB w_, rfl⟩
        refine wpG_cons (gval (.int .i64 (i : Nat)) (fun _ => trivial) fun w_ hJ hd => ?_) ?_
        · exact ⟨by kernel_rfl, by kernel_rfl, rfl⟩
        refine wpG_cons (gval (.int .i64 (IntKind.i64.wrap (8 * (i : Int)))) (fun _ => trivial) fun w_ hJ hd => ?_) ?_
        · have e27 : vals 27 = _ := hd 27 (by decide) (by kernel_rfl)
          rw [e27]
          exact ⟨by kernel_rfl, by kernel_rfl, rfl⟩
        refine wpG_cons (gop (binOp .shl 28 (.int .u64 B) (.int .i64 (IntKind.i64.wrap (8 * (i : Int))))) (.int .u64 (S)) (fun _ => trivial) fun w_ hJ hd => ?_) ?_
        · have e26 : vals 26 = _ := hd 26 (by decide) (by kernel_rfl)
          have e28 : vals 28 = _ := hd 28 (by decide) (by kernel_rfl)
          rw [e26, e28]
          exact ⟨by kernel_rfl, by kernel_rfl, hS1 w_, rfl⟩
        refine wpG_cons (gop (binOp .or 28 (.int .u64 gv) (.int .u64 S)) (.int .u64 (gv + S)) (fun _ => trivial) fun w_ hJ hd => ?_) ?_
        · have e1 : vals 1 = _ := hd 1 (by decide) (by kernel_rfl)
          have e29 : vals 29 = _ := hd 29 (by decide) (by kernel_rfl)
          rw [e1, e29]
          exact ⟨by kernel_rfl, by kernel_rfl, hS2 w_, rfl⟩
        refine wpG_cons (gval (.pointer (some ⟨kG, 2, none⟩)) (fun _ => trivial) fun w_ hJ hd => ?_) wpG_nil
        · exact ⟨by kernel_rfl, by kernel_rfl, rfl⟩
      · intro vals w_ hJ hf
        have e0 : vals 0 = _ := hf 0 (by decide)
        have e1 : vals 1 = _ := hf 1 (by decide)
        have e2 : vals 2 = _ := hf 2 (by decide)
        have e3 : vals 3 = _ := hf 3 (by decide)
        have e4 : vals 4 = _ := hf 4 (by decide)
        have e5 : vals 5 = _ := hf 5 (by decide)
        have e6 : vals 6 = _ := hf 6 (by decide)
        have e7 : vals 7 = _ := hf 7 (by decide)
        have e8 : vals 8 = _ := hf 8 (by decide)
        have e9 : vals 9 = _ := hf 9 (by decide)
        have e10 : vals 10 = _ := hf 10 (by decide)
        have e11 : vals 11 = _ := hf 11 (by decide)
        have e12 : vals 12 = _ := hf 12 (by decide)
        have e13 : vals 13 = _ := hf 13 (by decide)
        have e14 : vals 14 = _ := hf 14 (by decide)
        have e15 : vals 15 = _ := hf 15 (by decide)
        have e16 : vals 16 = _ := hf 16 (by decide)
        have e17 : vals 17 = _ := hf 17 (by decide)
        have e18 : vals 18 = _ := hf 18 (by decide)
        have e19 : vals 19 = _ := hf 19 (by decide)
        have e20 : vals 20 = _ := hf 20 (by decide)
        have e21 : vals 21 = _ := hf 21 (by decide)
        have e22 : vals 22 = _ := hf 22 (by decide)
        have e23 : vals 23 = _ := hf 23 (by decide)
        have e24 : vals 24 = _ := hf 24 (by decide)
        have e25 : vals 25 = _ := hf 25 (by decide)
        have e26 : vals 26 = _ := hf 26 (by decide)
        have e27 : vals 27 = _ := hf 27 (by decide)
        have e28 : vals 28 = _ := hf 28 (by decide)
        have e29 : vals 29 = _ := hf 29 (by decide)
        have e30 : vals 30 = _ := hf 30 (by decide)
        have e31 : vals 31 = _ := hf 31 (by decide)
        show Oper.wp _ _ (fillG vals 0 (_ :: _ :: _ :: _ :: _ :: _ :: _ :: _ :: _ :: _ :: _ :: _ :: _ :: _ :: _ :: _ :: _ :: _ :: _ :: _ :: _ :: _ :: _ :: _ :: _ :: _ :: _ :: _ :: _ :: _ :: _ :: _ :: []) _) _ _ _
        simp only [fillG, Nat.zero_add, Nat.reduceAdd, e0, e1, e2, e3, e4, e5, e6, e7, e8, e9, e10, e11, e12, e13, e14, e15, e16, e17, e18, e19, e20, e21, e22, e23, e24, e25, e26, e27, e28, e29, e30, e31, Act.put, List.setIfInBounds_toArray, List.set_cons_succ, List.set_cons_zero]
        clear e0 e1 e2 e3 e4 e5 e6 e7 e8 e9 e10 e11 e12 e13 e14 e15 e16 e17 e18 e19 e20 e21 e22 e23 e24 e25 e26 e27 e28 e29 e30 e31 hf
        refine wp_last_skip (w' := w_.setCell ⟨kG, 2, none⟩ (.int .u64 (gv + S))) (m := Instr.storeAt 28 (.pointer (some ⟨kG, 2, none⟩)) (.int .u64 (gv + S))) (by kernel_rfl) (run_store1 (by kernel_rfl) rfl rfl (cells3f hJ.f2.heap).2.2.1 (cells3f hJ.f2.heap).2.2.2.2.2) ?_
        first | show Exit.then _ _ Exit.normal (Act.put ⟨_, _⟩ none _) _ | show Exit.inBlock _ _ Exit.normal (Act.put ⟨_, _⟩ none _) _ | skip
        simp only [Act.put]
        have hY3 : Heap w0 (w_.setCell ⟨kG, 2, none⟩ (.int .u64 (gv + S))) (HP.blk kQ #[ptr b] 24 :: HP.blk kG #[.bool (!s.data), .int .u8 (gm + M), .int .u64 (gv + S)] 37 :: HP.blk kN #[.int .i64 (n : Nat)] 3 :: O b (some ⟨g, o, none⟩) cap bs q L) := (Heap.f2 ((Heap.f2 hJ).set 2 (.int .u64 (gv + S))))
        exact bodyPost_end (v := .tuple #[]) (by simp [results, Try.results42, go_sem]) rfl ⟨rfl, hY3⟩
theorem gotN_up (l : List Ent) (e : Ent) (n : Nat) (w0 : Bool) (j : Nat) : gotN l e n w0 (j + 1) = gotStep l e n j (gotN l e n w0 j) := rfl
set_option maxRecDepth 100000 in
set_option maxHeartbeats 2000000 in
theorem each42 {kQ kG kN n : Nat} {e : Ent} {wb : Bool} (hk : OK b (some ⟨g, o, none⟩) cap bs q) (he : q.l[n]? = some e) (h : Heap w0 w (HP.blk kQ #[ptr b] 24 :: HP.blk kG (gotN q.l e n wb 0).cs.toArray 37 :: HP.blk kN #[.int .i64 (n : Nat)] 3 :: O b (some ⟨g, o, none⟩) cap bs q L)) :
    Calls Try.prog 36 #[ptr b, .int .i64 (n : Nat), .func (.func 42) #[] #[ptr kQ, ptr kG, ptr kN]] w fun r w' => r = .returned (.tuple #[]) ∧
      Heap w0 w' (HP.blk kQ #[ptr b] 24 :: HP.blk kG (gotN q.l e n wb e.size.toNat).cs.toArray 37 :: HP.blk kN #[.int .i64 (n : Nat)] 3 :: O b (some ⟨g, o, none⟩) cap bs q L) := by
  have hR := Heap.rq hk h.tail.tail.tail
  obtain ⟨q0, _, hbl⟩ := hR.c0
  obtain ⟨g', o', x, hA, hx, hgl, hg, hxl, hxb⟩ := hR.ent_at he
  injection hA with hA
  injection hA with hA1 hA2
  subst hA1 hA2
  obtain ⟨d0, d1, d2, d3, d4, d5, d6, d7, d8⟩ := cells9 hxb
  have heo := hk.inv.ok e (List.mem_of_getElem? he)
  obtain ⟨s0, s8⟩ := size_bd heo
  have hat := heo.at_
  have hkl := (List.getElem?_eq_some_iff.1 he).1
  have hlen16 := hk.inv.len
  obtain ⟨S, hS⟩ : ∃ S : Nat, e.size = S := ⟨e.size.toNat, by omega⟩
  rw [show e.size.toNat = S by omega]
  rw [hS] at d7 s8
  unfold ptr at hg ⊢
  have Hk := hide hk
  have He := hide he
  obtain ⟨len, hlen⟩ : ∃ len, q.l.length = len := ⟨_, rfl⟩
  rw [hlen] at q0 hkl hlen16
  have Hlen := hide hlen
  have H := hide h
  clear h hR hk he heo hS hx hxb hlen
  go_enter Try.func36, Try.ntmps36
  go_wp2
  go_loopw [17] (fun i wr => ∃ j : Nat, i = .int .i64 j ∧ j ≤ S ∧ Heap w0 wr (HP.blk kQ #[ptr b] 24 :: HP.blk kG (gotN q.l e n wb j).cs.toArray 37 :: HP.blk kN #[.int .i64 (n : Nat)] 3 :: O b (some ⟨g, o, none⟩) cap bs q L)) (fun i _ => S - (intOf i).toNat)
  case atStart => exact ⟨0, rfl, Nat.zero_le _, unhide H⟩
  case round =>
    obtain ⟨j, rfl, hj, hJ⟩ := hrel
    clear q0 hbl hgl hg hxl d0 d1 d2 d3 d4 d5 d6 d7 d8
    have hR := Heap.rq (unhide Hk) hJ.tail.tail.tail
    obtain ⟨q0, _, hbl⟩ := hR.c0
    obtain ⟨g', o', x, hA, hx, hgl, hg, hxl, hxb⟩ := hR.ent_at (unhide He)
    injection hA with hA
    injection hA with hA1 hA2
    subst hA1 hA2
    obtain ⟨d0, d1, d2, d3, d4, d5, d6, d7, d8⟩ := cells9 hxb
    unfold ptr at hg
    rw [unhide Hlen] at q0
    by_cases hlt : j < S
    · have hw := wrapA_bd e.at_ j
      have hwe : IntKind.u64.wrap (e.at_ + (j : Int)) = wrapA e.at_ j := IntKind.wrap_u64 _
      have hwj : IntKind.u64.wrap (j : Int) = (j : Int) := by rw [IntKind.wrap_u64]; omega
      have hcall := hide (giver_any hR n (by rw [unhide Hlen]; omega) (wrapA e.at_ j) hw.1 hw.2)
      have HJ := hide hJ
      clear hJ hR hx hxb
      go_wp2_with fail
      refine (unhide hcall).mono ?_
      rintro r w2 ⟨rfl, hg2⟩
      have hJ2 := (unhide HJ).grown hg2
      clear hcall HJ hg2 q0 hbl hgl hg hxl d0 d1 d2 d3 d4 d5 d6 d7 d8
      obtain ⟨gv, hgv⟩ : ∃ gv, giver q.l (wrapA e.at_ j) n = gv := ⟨_, rfl⟩
      rw [hgv]
      cases gv with
      | none =>
        have hst : gotN q.l e n wb (j + 1) = gotN q.l e n wb j := by rw [gotN_up]; unfold gotStep; rw [hgv]
        unfold optI
        go_wp2_with fail
        refine (cl42n (kQ := kQ) (kG := kG) (kN := kN) (i := j)).mono ?_
        rintro r w3 ⟨rfl, rfl⟩
        rw [← hst] at hJ2
        go_wp2
        exact ⟨⟨j + 1, by go_num, by omega, hJ2⟩, by simp [intOf]; omega⟩
      | some gi =>
        obtain ⟨_, s, hs, _⟩ := giver_some hgv
        have hst : gotN q.l e n wb (j + 1) = GotS.mk ((gotN q.l e n wb j).wait || !s.data) ((gotN q.l e n wb j).mask + 2 ^ j) ((gotN q.l e n wb j).val + byteG e s j * 2 ^ (8 * j)) := by rw [gotN_up]; unfold gotStep; rw [hgv]; dsimp only; rw [hs]
        have hc := hide (cl42 (unhide Hk) (unhide He) hs (by omega) (giver_sh (unhide Hk).inv hgv hs) (gotN_bd q.l e n wb j) hJ2)
        clear hJ2
        unfold optI
        go_wp2_with fail
        refine (unhide hc).mono ?_
        rintro r w3 ⟨rfl, hJ3⟩
        rw [← hst] at hJ3
        clear hc
        go_wp2
        exact ⟨⟨j + 1, by go_num, by omega, hJ3⟩, by simp [intOf]; omega⟩
    · obtain rfl : j = S := by omega
      go_wp2
      exact bodyPost_end (v := .tuple #[]) (by simp [results, Try.results36, go_sem]) rfl ⟨rfl, hJ⟩
end
end Go.Proofs.Ytdmkgomcomcfhaa
