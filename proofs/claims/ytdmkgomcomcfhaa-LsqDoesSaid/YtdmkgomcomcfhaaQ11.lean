/- Layer 23: Look. -/
import Derived.Test.YtdmkgomcomcfhaaQ10
namespace Go.Proofs.Ytdmkgomcomcfhaa
open Go.RowKit

def waitN (q : Qs) (e : Ent) (k : Nat) : Bool := (q.l.take k).any fun x => x.store && !x.placed && (q.h (rowN e.pc)).2 && ((q.h (rowN e.pc)).1 == x.pc)
def lookG (q : Qs) (n : Nat) (e : Ent) : GotS := if (gotN q.l e n (waitN q e n) e.size.toNat).wait then ⟨true, 0, 0⟩ else gotN q.l e n (waitN q e n) e.size.toNat
def lookQ (q : Qs) (t : Int) : GotS × Bool := match findN q.l t with
  | none => (GotS.z, false)
  | some n => match q.l[n]? with
    | none => (GotS.z, false)
    | some e => if e.store || !e.placed then (GotS.z, false) else (lookG q n e, true)
theorem resG {fn : Func} {p u : Tmp} {tmps : Array Value} {w : World} {g : Nat} {a : Bool} {d f : Int} {x : Value} (h : fn.results = #[.cell p 37, .tmp u]) (hp : tmps.getD p undef = .pointer (some ⟨g, 0, none⟩)) (hu : tmps.getD u undef = x)
    (hg : w.heap[g]? = some (.cells #[.bool a, .int .u8 d, .int .u64 f] 37 (0, 0))) :
    (results fn tmps).run Try.prog w = .ok (.tuple #[.agg #[.bool a, .int .u8 d, .int .u64 f], x]) w := by
  have hl := run_loadVar_row (P := Try.prog) w g 37 37 #[.bool a, .int .u8 d, .int .u64 f] (0, 0) _ hg Try.underlying37 rfl (by kernel_rfl)
  subst hu
  have hp' : tmps[p]?.getD undef = .pointer (some ⟨g, 0, none⟩) := by simpa using hp
  simp only [results, h]
  simp [Sem.run_bind, Result.andThen, hp', asAddr, hl]
theorem lss0 (n : Nat) (w : World) : (binOp .lss 3 (.int .i64 (n : Int)) (.int .i64 0)).run Try.prog w = .ok (.bool false) w := by
  have h : decide ((n : Int) < 0) = false := decide_eq_false (by omega)
  rw [← h]
  rfl
theorem slH {g o len cap n : Nat} (h : n ≤ cap) (w : World) : (Instr.sliceAt 64 (.slice (some ⟨g, o, none⟩) len cap) none (some (.int .i64 (n : Nat))) none).run Try.prog w = .ok (.slice (some ⟨g, o, none⟩) n cap) w := by
  have he : Try.prog.elem 64 = 74 := by simp [Program.elem, Try.underlying64]
  have hT : Try.prog.underlying 64 = some (.slice (Try.prog.elem 64)) := by rw [he]; exact Try.underlying64
  rw [run_sliceAt_slice _ 64 _ _ _ _ hT, run_slice_h _ 64 _ _ _ hT .i64 n (by omega) (by omega), he]
  have hz : (sizeOf 74).run Try.prog w = .ok 1 w := by kernel_rfl
  rw [hz]
  simp [Result.andThen, sliced, Addr.add]
theorem RQ.hab {w : World} {b : Nat} {A : Option Addr} {cap : Nat} {bs : List Nat} {q : Qs} (h : RQ w b A cap bs q) {r : Nat} (hr : r < 16) : w.cell? ⟨b, 1 + r * 2, none⟩ = some (.int .u64 (q.h r).1) ∧ w.cell? ⟨b, 1 + r * 2 + 1, none⟩ = some (.bool (q.h r).2) := by
  have h1 := (cell_blk h.blk (1 + r * 2)).1
  have h2 := (cell_blk h.blk (1 + r * 2 + 1)).1
  rw [show 1 + r * 2 = r * 2 + 1 by omega] at h1 h2 ⊢
  rw [qcs_get _ _ (by omega)] at h1 h2
  have e1 : r * 2 % 2 = 0 := by omega
  have e2 : ¬ (r * 2 + 1) % 2 = 0 := by omega
  have e3 : r * 2 / 2 = r := by omega
  have e4 : (r * 2 + 1) / 2 = r := by omega
  unfold hv at h1 h2
  rw [if_pos e1, e3] at h1
  rw [if_neg e2, e4] at h2
  exact ⟨h1, h2⟩
section
variable {w0 w : World} {L : List HP} {b : Nat} {q : Qs}
set_option maxRecDepth 100000 in
set_option maxHeartbeats 4000000 in
theorem look_h (h : Heap w0 w (HP.q b q :: L)) (tag : Int) :
    Calls Try.prog 20 #[ptr b, .int .i64 tag] w fun r w' => r = .returned (.tuple #[.agg (lookQ q tag).1.cs.toArray, .bool (lookQ q tag).2]) ∧ Heap w0 w' (HP.q b q :: L) := by
  obtain ⟨A, cap, bs, hR, hh⟩ := h.qr
  have HR := hide hR
  have HB := hide hh
  obtain ⟨R, hR2⟩ : ∃ R, lookQ q tag = R := ⟨_, rfl⟩
  rw [hR2]
  have HR2 := hide hR2
  have hcall := hide fun w' (hg : GN w w') => find_any (hR.gn hg) tag
  have hO : Heap w0 w (O b A cap bs q L) := hh
  have H0 := hide (((hO.new #[ptr b] 24).new #[.bool false, .int .u8 0, .int .u64 0] 37))
  have hbl := lt_of_heap' hh.heap
  clear hR h hh hR2 hO
  unfold ptr at H0 ⊢
  go_enter Try.func20, Try.ntmps20
  go_wp2_with fail
  refine (unhide hcall _ (((GN.refl w).alloc _).alloc _)).mono ?_
  rintro r w1 ⟨rfl, hw1⟩
  replace hw1 := hw1.symm
  subst hw1
  clear hcall
  obtain ⟨kQ, hkQ⟩ : ∃ k, w.heap.size = k := ⟨_, rfl⟩
  obtain ⟨k4, hk4⟩ : ∃ k, w.heap.size + 1 = k := ⟨_, rfl⟩
  have h1 := unhide H0
  rw [show (w.alloc (.cells #[.pointer (some ⟨b, 0, none⟩)] 24)).heap.size = w.heap.size + 1 by simp, hk4, hkQ] at h1
  rw [hk4, hkQ]
  generalize (w.alloc (.cells #[.pointer (some ⟨b, 0, none⟩)] 24)).alloc (.cells #[.bool false, .int .u8 0, .int .u64 0] 37) = wA at *
  clear H0 HB hbl hk4 hkQ
  have h1 : Heap w0 wA (HP.blk k4 #[.bool false, .int .u8 0, .int .u64 0] 37 :: HP.blk kQ #[ptr b] 24 :: O b A cap bs q L) := h1
  cases hf : findN q.l tag with
  | none =>
    have hfin := hide (show R = (GotS.z, false) by rw [← unhide HR2]; unfold lookQ; rw [hf])
    have h6 := h1.new #[.int .i64 (-1)] 3
    obtain ⟨k6, hk6⟩ : ∃ k, wA.heap.size = k := ⟨_, rfl⟩
    have cQ := (cells1 h1.f2.heap).1
    have hQl := lt_of_heap' h1.f2.heap
    rw [hk6] at h6
    have HK6 := hide hk6
    clear hf hk6
    unfold optI
    clear cQ hQl
    go_wp2
    rw [unhide HK6]
    refine wp_region_F (fun w_ => Heap w0 w_ (HP.blk k6 #[.int .i64 (-1)] 3 :: HP.blk k4 #[.bool false, .int .u8 0, .int .u64 0] 37 :: HP.blk kQ #[ptr b] 24 :: O b A cap bs q L)) (fun _ _ => True) (fun k_ v_ w_ => match k_ with
        | 0 => v_ = .int .i64 (-1)
        | 1 => v_ = .bool true
        | 2 => v_ = .bool true
        | 3 => v_ = undef
        | 4 => v_ = undef
        | 5 => v_ = undef
        | 6 => v_ = undef
        | 7 => v_ = undef
        | 8 => v_ = undef
        | 9 => v_ = undef
        | 10 => v_ = undef
        | 11 => v_ = undef
        | 12 => v_ = undef
        | 13 => v_ = .bool true
        | 14 => v_ = .bool true
        | 15 => v_ = undef
        | 16 => v_ = undef
        | 17 => v_ = undef
        | 18 => v_ = undef
        | 19 => v_ = undef
        | 20 => v_ = undef
        | 21 => v_ = undef
        | 22 => v_ = undef
        | 23 => v_ = undef
        | 24 => v_ = undef
        | 25 => v_ = undef
        | _ => v_ = .bool true) fol (by kernel_rfl) ?_ ?_ ?_ ?_
    · exact h6.drew
    · intro k_ v_ w_ w2_ h1 hg
      split at h1 <;> exact h1
    · intro vals
      show wpG _ _ _ _ _ _ 0 (_ :: _) _
      refine wpG_cons (gop (Instr.loadAt 3 (.pointer (some ⟨k6, 0, none⟩))) (.int .i64 (-1)) (fun _ => trivial) fun w_ hJ hd => ?_) ?_
      · exact ⟨by kernel_rfl, by kernel_rfl, run_load1 (by kernel_rfl) ((cells1 hJ.heap).1), rfl⟩
      refine wpG_cons (gval (.bool true) (fun _ => trivial) fun w_ hJ hd => ?_) ?_
      · have e0 : vals 0 = _ := hd 0 (by decide) (by kernel_rfl)
        rw [e0]
        exact ⟨by kernel_rfl, by kernel_rfl, rfl⟩
      refine wpG_cons (gval (.bool true) (fun _ => trivial) fun w_ hJ hd => ?_) ?_
      · have e1 : vals 1 = _ := hd 1 (by decide) (by kernel_rfl)
        rw [e1]
        exact ⟨by kernel_rfl, by kernel_rfl, rfl⟩
      refine wpG_cons (gskip fun w_ hJ hd => ?_) ?_
      · have e2 : vals 2 = _ := hd 2 (by decide) (by kernel_rfl)
        rw [e2]
        exact ⟨by kernel_rfl, rfl⟩
      refine wpG_cons (gskip fun w_ hJ hd => ?_) ?_
      · have e2 : vals 2 = _ := hd 2 (by decide) (by kernel_rfl)
        rw [e2]
        exact ⟨by kernel_rfl, rfl⟩
      refine wpG_cons (gskip fun w_ hJ hd => ?_) ?_
      · have e2 : vals 2 = _ := hd 2 (by decide) (by kernel_rfl)
        rw [e2]
        exact ⟨by kernel_rfl, rfl⟩
      refine wpG_cons (gskip fun w_ hJ hd => ?_) ?_
      · have e2 : vals 2 = _ := hd 2 (by decide) (by kernel_rfl)
        rw [e2]
        exact ⟨by kernel_rfl, rfl⟩
      refine wpG_cons (gskip fun w_ hJ hd => ?_) ?_
      · have e2 : vals 2 = _ := hd 2 (by decide) (by kernel_rfl)
        rw [e2]
        exact ⟨by kernel_rfl, rfl⟩
      refine wpG_cons (gskip fun w_ hJ hd => ?_) ?_
      · have e2 : vals 2 = _ := hd 2 (by decide) (by kernel_rfl)
        rw [e2]
        exact ⟨by kernel_rfl, rfl⟩
      refine wpG_cons (gskip fun w_ hJ hd => ?_) ?_
      · have e2 : vals 2 = _ := hd 2 (by decide) (by kernel_rfl)
        rw [e2]
        exact ⟨by kernel_rfl, rfl⟩
      refine wpG_cons (gskip fun w_ hJ hd => ?_) ?_
      · have e2 : vals 2 = _ := hd 2 (by decide) (by kernel_rfl)
        rw [e2]
        exact ⟨by kernel_rfl, rfl⟩
      refine wpG_cons (gskip fun w_ hJ hd => ?_) ?_
      · have e2 : vals 2 = _ := hd 2 (by decide) (by kernel_rfl)
        rw [e2]
        exact ⟨by kernel_rfl, rfl⟩
      refine wpG_cons (gskip fun w_ hJ hd => ?_) ?_
      · have e2 : vals 2 = _ := hd 2 (by decide) (by kernel_rfl)
        rw [e2]
        exact ⟨by kernel_rfl, rfl⟩
      refine wpG_cons (gval (.bool true) (fun _ => trivial) fun w_ hJ hd => ?_) ?_
      · have e2 : vals 2 = _ := hd 2 (by decide) (by kernel_rfl)
        have e12 : vals 12 = _ := hd 12 (by decide) (by kernel_rfl)
        rw [e2, e12]
        exact ⟨by kernel_rfl, by kernel_rfl, rfl⟩
      refine wpG_cons (gval (.bool true) (fun _ => trivial) fun w_ hJ hd => ?_) ?_
      · have e13 : vals 13 = _ := hd 13 (by decide) (by kernel_rfl)
        rw [e13]
        exact ⟨by kernel_rfl, by kernel_rfl, rfl⟩
      refine wpG_cons (gskip fun w_ hJ hd => ?_) ?_
      · have e14 : vals 14 = _ := hd 14 (by decide) (by kernel_rfl)
        rw [e14]
        exact ⟨by kernel_rfl, rfl⟩
      refine wpG_cons (gskip fun w_ hJ hd => ?_) ?_
      · have e14 : vals 14 = _ := hd 14 (by decide) (by kernel_rfl)
        rw [e14]
        exact ⟨by kernel_rfl, rfl⟩
      refine wpG_cons (gskip fun w_ hJ hd => ?_) ?_
      · have e14 : vals 14 = _ := hd 14 (by decide) (by kernel_rfl)
        rw [e14]
        exact ⟨by kernel_rfl, rfl⟩
      refine wpG_cons (gskip fun w_ hJ hd => ?_) ?_
      · have e14 : vals 14 = _ := hd 14 (by decide) (by kernel_rfl)
        rw [e14]
        exact ⟨by kernel_rfl, rfl⟩
      refine wpG_cons (gskip fun w_ hJ hd => ?_) ?_
      · have e14 : vals 14 = _ := hd 14 (by decide) (by kernel_rfl)
        rw [e14]
        exact ⟨by kernel_rfl, rfl⟩
      refine wpG_cons (gskip fun w_ hJ hd => ?_) ?_
      · have e14 : vals 14 = _ := hd 14 (by decide) (by kernel_rfl)
        rw [e14]
        exact ⟨by kernel_rfl, rfl⟩
      refine wpG_cons (gskip fun w_ hJ hd => ?_) ?_
      · have e14 : vals 14 = _ := hd 14 (by decide) (by kernel_rfl)
        rw [e14]
        exact ⟨by kernel_rfl, rfl⟩
      refine wpG_cons (gskip fun w_ hJ hd => ?_) ?_
      · have e14 : vals 14 = _ := hd 14 (by decide) (by kernel_rfl)
        rw [e14]
        exact ⟨by kernel_rfl, rfl⟩
      refine wpG_cons (gskip fun w_ hJ hd => ?_) ?_
      · have e14 : vals 14 = _ := hd 14 (by decide) (by kernel_rfl)
        rw [e14]
        exact ⟨by kernel_rfl, rfl⟩
      refine wpG_cons (gskip fun w_ hJ hd => ?_) ?_
      · have e14 : vals 14 = _ := hd 14 (by decide) (by kernel_rfl)
        rw [e14]
        exact ⟨by kernel_rfl, rfl⟩
      refine wpG_cons (gskip fun w_ hJ hd => ?_) ?_
      · have e14 : vals 14 = _ := hd 14 (by decide) (by kernel_rfl)
        rw [e14]
        exact ⟨by kernel_rfl, rfl⟩
      refine wpG_cons (gval (.bool true) (fun _ => trivial) fun w_ hJ hd => ?_) wpG_nil
      · have e14 : vals 14 = _ := hd 14 (by decide) (by kernel_rfl)
        have e25 : vals 25 = _ := hd 25 (by decide) (by kernel_rfl)
        rw [e14, e25]
        exact ⟨by kernel_rfl, by kernel_rfl, rfl⟩
    · intro vals w_ hJ hf
      have e0 : vals 0 = _ := hf 0 (by decide)
      have e1 : vals 1 = _ := hf 1 (by decide)
      have e2 : vals 2 = _ := hf 2 (by decide)
      have e3 : vals 3 = _ := hf 3 (by decide)
      have e4 : vals 4 = _ := hf 4 (by decide)
      have e5 : vals 5 = _ := hf 5 (by decide)
      have e6 : vals 6 = _ := hf 6 (by decide)
      have e7 : vals 7 = _ := hf 7 (by decide)
      have e8 : vals 8 = _ := hf 8 (by decide)
      have e9 : vals 9 = _ := hf 9 (by decide)
      have e10 : vals 10 = _ := hf 10 (by decide)
      have e11 : vals 11 = _ := hf 11 (by decide)
      have e12 : vals 12 = _ := hf 12 (by decide)
      have e13 : vals 13 = _ := hf 13 (by decide)
      have e14 : vals 14 = _ := hf 14 (by decide)
      have e15 : vals 15 = _ := hf 15 (by decide)
      have e16 : vals 16 = _ := hf 16 (by decide)
      have e17 : vals 17 = _ := hf 17 (by decide)
      have e18 : vals 18 = _ := hf 18 (by decide)
      have e19 : vals 19 = _ := hf 19 (by decide)
      have e20 : vals 20 = _ := hf 20 (by decide)
      have e21 : vals 21 = _ := hf 21 (by decide)
      have e22 : vals 22 = _ := hf 22 (by decide)
      have e23 : vals 23 = _ := hf 23 (by decide)
      have e24 : vals 24 = _ := hf 24 (by decide)
      have e25 : vals 25 = _ := hf 25 (by decide)
      have e26 : vals 26 = _ := hf 26 (by decide)
      simp only [fillG, Nat.zero_add, Nat.reduceAdd, e0, e1, e2, e3, e4, e5, e6, e7, e8, e9, e10, e11, e12, e13, e14, e15, e16, e17, e18, e19, e20, e21, e22, e23, e24, e25, e26, Act.put, List.setIfInBounds_toArray, List.set_cons_succ, List.set_cons_zero]
      clear e0 e1 e2 e3 e4 e5 e6 e7 e8 e9 e10 e11 e12 e13 e14 e15 e16 e17 e18 e19 e20 e21 e22 e23 e24 e25 e26 hf
      clear h6
      obtain ⟨e0, e1, e2, f0, f1, f2⟩ := cells3f hJ.f2.heap
      have hl4 := lt_of_heap' hJ.f2.heap
      have h7 : Heap w0 (((w_.setCell ⟨k4, 0, none⟩ (.bool false)).setCell ⟨k4, 1, none⟩ (.int .u8 0)).setCell ⟨k4, 2, none⟩ (.int .u64 0)) (HP.blk k4 #[.bool false, .int .u8 0, .int .u64 0] 37 :: HP.blk k6 #[.int .i64 (-1)] 3 :: HP.blk kQ #[ptr b] 24 :: O b A cap bs q L) := ((hJ.f2.set 0 (.bool false)).set 1 (.int .u8 0)).set 2 (.int .u64 0)
      have H7 := hide h7
      clear hJ h7
      go_wp2
      exact bodyPost_ret (v := .tuple #[.agg #[.bool false, .int .u8 0, .int .u64 0], .bool false]) (resG rfl rfl rfl (unhide H7).heap) rfl ⟨by rw [unhide hfin]; rfl, Heap.qc (unhide HR).inv (unhide HR).lenl (unhide H7).tail.tail.tail⟩
  | some n =>
    obtain ⟨e, he, _⟩ := findN_get hf
    obtain ⟨g, o, x, rfl, hx, _, _, _, _⟩ := (unhide HR).ent_at he
    have hnl := (List.getElem?_eq_some_iff.1 he).1
    have hw : lookQ q tag = if e.store || !e.placed then (GotS.z, false) else (lookG q n e, true) := by unfold lookQ; rw [hf]; dsimp only; rw [he]
    rw [unhide HR2] at hw
    have HW := hide hw
    have h6 := h1.new #[.int .i64 (n : Nat)] 3
    obtain ⟨k6, hk6⟩ : ∃ k, wA.heap.size = k := ⟨_, rfl⟩
    have cQ := (cells1 h1.f2.heap).1
    have hQl := lt_of_heap' h1.f2.heap
    rw [hk6] at h6
    have HK6 := hide hk6
    have G2 : ∀ w_, Heap w0 w_ (HP.blk k6 #[.int .i64 (n : Nat)] 3 :: HP.blk k4 #[.bool false, .int .u8 0, .int .u64 0] 37 :: HP.blk kQ #[ptr b] 24 :: O b (some ⟨g, o, none⟩) cap bs q L) → w_.cell? ⟨b, 0, none⟩ = some (.slice (some ⟨g, o, none⟩) q.l.length cap) := fun w_ hJ => (Heap.rq (unhide HR).ok hJ.tail.tail.tail).c0.1
    have G3 : ∀ w_, Heap w0 w_ (HP.blk k6 #[.int .i64 (n : Nat)] 3 :: HP.blk k4 #[.bool false, .int .u8 0, .int .u64 0] 37 :: HP.blk kQ #[ptr b] 24 :: O b (some ⟨g, o, none⟩) cap bs q L) → w_.cell? ⟨g, o + n, none⟩ = some (.pointer (some ⟨x, 0, none⟩)) := fun w_ hJ => gptr (Heap.rq (unhide HR).ok hJ.tail.tail.tail) he hx
    have G9 : ∀ w_, Heap w0 w_ (HP.blk k6 #[.int .i64 (n : Nat)] 3 :: HP.blk k4 #[.bool false, .int .u8 0, .int .u64 0] 37 :: HP.blk kQ #[ptr b] 24 :: O b (some ⟨g, o, none⟩) cap bs q L) → w_.heap[x]? = some (.cells e.cs.toArray 76 (0, 0)) := fun w_ hJ => (Heap.f6 hJ).ents_get hx he
    have He := hide he
    have Hx := hide hx
    clear hf hk6 he hx hw
    unfold optI
    cases hs : e.store with
    | true =>
      have hfin := hide (show R = (GotS.z, false) by rw [unhide HW, hs]; rfl)
      have G4 : ∀ w_, Heap w0 w_ (HP.blk k6 #[.int .i64 (n : Nat)] 3 :: HP.blk k4 #[.bool false, .int .u8 0, .int .u64 0] 37 :: HP.blk kQ #[ptr b] 24 :: O b (some ⟨g, o, none⟩) cap bs q L) → w_.cell? ⟨x, 2, none⟩ = some (.bool true) := fun w_ hJ => by rw [← hs]; exact (cells9 (G9 w_ hJ)).2.2.1
      go_wp2
      rw [unhide HK6]
      refine wp_region_F (fun w_ => Heap w0 w_ (HP.blk k6 #[.int .i64 (n : Nat)] 3 :: HP.blk k4 #[.bool false, .int .u8 0, .int .u64 0] 37 :: HP.blk kQ #[ptr b] 24 :: O b (some ⟨g, o, none⟩) cap bs q L)) (fun _ _ => True) (fun k_ v_ w_ => match k_ with
          | 0 => v_ = .int .i64 (n : Nat)
          | 1 => v_ = .bool false
          | 2 => v_ = .bool false
          | 3 => v_ = .pointer (some ⟨b, 0, none⟩)
          | 4 => v_ = .pointer (some ⟨b, 0, none⟩)
          | 5 => v_ = .pointer (some ⟨b, 0, none⟩)
          | 6 => v_ = .slice (some ⟨g, o, none⟩) q.l.length cap
          | 7 => v_ = .int .i64 (n : Nat)
          | 8 => v_ = .pointer (some ⟨g, o + n, none⟩)
          | 9 => v_ = .pointer (some ⟨x, 0, none⟩)
          | 10 => v_ = .pointer (some ⟨x, 0, none⟩)
          | 11 => v_ = .pointer (some ⟨x, 2, none⟩)
          | 12 => v_ = .bool true
          | 13 => v_ = .bool true
          | 14 => v_ = .bool true
          | 15 => v_ = undef
          | 16 => v_ = undef
          | 17 => v_ = undef
          | 18 => v_ = undef
          | 19 => v_ = undef
          | 20 => v_ = undef
          | 21 => v_ = undef
          | 22 => v_ = undef
          | 23 => v_ = undef
          | 24 => v_ = undef
          | 25 => v_ = undef
          | _ => v_ = .bool true) fol (by kernel_rfl) ?_ ?_ ?_ ?_
      · exact h6.drew
      · intro k_ v_ w_ w2_ h1 hg
        split at h1 <;> exact h1
      · intro vals
        show wpG _ _ _ _ _ _ 0 (_ :: _) _
        refine wpG_cons (gop (Instr.loadAt 3 (.pointer (some ⟨k6, 0, none⟩))) (.int .i64 (n : Nat)) (fun _ => trivial) fun w_ hJ hd => ?_) ?_
        · exact ⟨by kernel_rfl, by kernel_rfl, run_load1 (by kernel_rfl) ((cells1 hJ.heap).1), rfl⟩
        refine wpG_cons (gop (binOp .lss 3 (.int .i64 (n : Nat)) (.int .i64 0)) (.bool false) (fun _ => trivial) fun w_ hJ hd => ?_) ?_
        · have e0 : vals 0 = _ := hd 0 (by decide) (by kernel_rfl)
          rw [e0]
          exact ⟨by kernel_rfl, by kernel_rfl, lss0 n w_, rfl⟩
        refine wpG_cons (gval (.bool false) (fun _ => trivial) fun w_ hJ hd => ?_) ?_
        · have e1 : vals 1 = _ := hd 1 (by decide) (by kernel_rfl)
          rw [e1]
          exact ⟨by kernel_rfl, by kernel_rfl, rfl⟩
        refine wpG_cons (gop (Instr.loadAt 24 (.pointer (some ⟨kQ, 0, none⟩))) (.pointer (some ⟨b, 0, none⟩)) (fun _ => trivial) fun w_ hJ hd => ?_) ?_
        · have e2 : vals 2 = _ := hd 2 (by decide) (by kernel_rfl)
          rw [e2]
          exact ⟨by kernel_rfl, by kernel_rfl, run_load1 (by kernel_rfl) ((cells1 hJ.f3.heap).1), rfl⟩
        refine wpG_cons (gval (.pointer (some ⟨b, 0, none⟩)) (fun _ => trivial) fun w_ hJ hd => ?_) ?_
        · have e2 : vals 2 = _ := hd 2 (by decide) (by kernel_rfl)
          have e3 : vals 3 = _ := hd 3 (by decide) (by kernel_rfl)
          rw [e2, e3]
          exact ⟨by kernel_rfl, by kernel_rfl, rfl⟩
        refine wpG_cons (gval (.pointer (some ⟨b, 0, none⟩)) (fun _ => trivial) fun w_ hJ hd => ?_) ?_
        · have e2 : vals 2 = _ := hd 2 (by decide) (by kernel_rfl)
          have e4 : vals 4 = _ := hd 4 (by decide) (by kernel_rfl)
          rw [e2, e4]
          exact ⟨by kernel_rfl, by kernel_rfl, rfl⟩
        refine wpG_cons (gop (Instr.loadAt 64 (.pointer (some ⟨b, 0, none⟩))) (.slice (some ⟨g, o, none⟩) q.l.length cap) (fun _ => trivial) fun w_ hJ hd => ?_) ?_
        · have e2 : vals 2 = _ := hd 2 (by decide) (by kernel_rfl)
          have e5 : vals 5 = _ := hd 5 (by decide) (by kernel_rfl)
          rw [e2, e5]
          exact ⟨by kernel_rfl, by kernel_rfl, run_load1 (by kernel_rfl) (G2 w_ hJ), rfl⟩
        refine wpG_cons (gop (Instr.loadAt 3 (.pointer (some ⟨k6, 0, none⟩))) (.int .i64 (n : Nat)) (fun _ => trivial) fun w_ hJ hd => ?_) ?_
        · have e2 : vals 2 = _ := hd 2 (by decide) (by kernel_rfl)
          rw [e2]
          exact ⟨by kernel_rfl, by kernel_rfl, run_load1 (by kernel_rfl) ((cells1 hJ.heap).1), rfl⟩
        refine wpG_cons (gop (Instr.indexAt 64 (.slice (some ⟨g, o, none⟩) q.l.length cap) (.int .i64 (n : Nat))) (.pointer (some ⟨g, o + n, none⟩)) (fun _ => trivial) fun w_ hJ hd => ?_) ?_
        · have e2 : vals 2 = _ := hd 2 (by decide) (by kernel_rfl)
          have e6 : vals 6 = _ := hd 6 (by decide) (by kernel_rfl)
          have e7 : vals 7 = _ := hd 7 (by decide) (by kernel_rfl)
          rw [e2, e6, e7]
          exact ⟨by kernel_rfl, by kernel_rfl, (run_ixat 64 74 1 Try.underlying64 (by kernel_rfl) _ _ _ _ _ hnl w_).trans (by rw [Nat.mul_one]), rfl⟩
        refine wpG_cons (gop (Instr.loadAt 74 (.pointer (some ⟨g, o + n, none⟩))) (.pointer (some ⟨x, 0, none⟩)) (fun _ => trivial) fun w_ hJ hd => ?_) ?_
        · have e2 : vals 2 = _ := hd 2 (by decide) (by kernel_rfl)
          have e8 : vals 8 = _ := hd 8 (by decide) (by kernel_rfl)
          rw [e2, e8]
          exact ⟨by kernel_rfl, by kernel_rfl, run_load1 (by kernel_rfl) (G3 w_ hJ), rfl⟩
        refine wpG_cons (gval (.pointer (some ⟨x, 0, none⟩)) (fun _ => trivial) fun w_ hJ hd => ?_) ?_
        · have e2 : vals 2 = _ := hd 2 (by decide) (by kernel_rfl)
          have e9 : vals 9 = _ := hd 9 (by decide) (by kernel_rfl)
          rw [e2, e9]
          exact ⟨by kernel_rfl, by kernel_rfl, rfl⟩
        refine wpG_cons (gval (.pointer (some ⟨x, 2, none⟩)) (fun _ => trivial) fun w_ hJ hd => ?_) ?_
        · have e2 : vals 2 = _ := hd 2 (by decide) (by kernel_rfl)
          have e10 : vals 10 = _ := hd 10 (by decide) (by kernel_rfl)
          rw [e2, e10]
          exact ⟨by kernel_rfl, by kernel_rfl, rfl⟩
        refine wpG_cons (gop (Instr.loadAt 4 (.pointer (some ⟨x, 2, none⟩))) (.bool true) (fun _ => trivial) fun w_ hJ hd => ?_) ?_
        · have e2 : vals 2 = _ := hd 2 (by decide) (by kernel_rfl)
          have e11 : vals 11 = _ := hd 11 (by decide) (by kernel_rfl)
          rw [e2, e11]
          exact ⟨by kernel_rfl, by kernel_rfl, run_load1 (by kernel_rfl) (G4 w_ hJ), rfl⟩
        refine wpG_cons (gval (.bool true) (fun _ => trivial) fun w_ hJ hd => ?_) ?_
        · have e2 : vals 2 = _ := hd 2 (by decide) (by kernel_rfl)
          have e12 : vals 12 = _ := hd 12 (by decide) (by kernel_rfl)
          rw [e2, e12]
          exact ⟨by kernel_rfl, by kernel_rfl, rfl⟩
        refine wpG_cons (gval (.bool true) (fun _ => trivial) fun w_ hJ hd => ?_) ?_
        · have e13 : vals 13 = _ := hd 13 (by decide) (by kernel_rfl)
          rw [e13]
          exact ⟨by kernel_rfl, by kernel_rfl, rfl⟩
        refine wpG_cons (gskip fun w_ hJ hd => ?_) ?_
        · have e14 : vals 14 = _ := hd 14 (by decide) (by kernel_rfl)
          rw [e14]
          exact ⟨by kernel_rfl, rfl⟩
        refine wpG_cons (gskip fun w_ hJ hd => ?_) ?_
        · have e14 : vals 14 = _ := hd 14 (by decide) (by kernel_rfl)
          rw [e14]
          exact ⟨by kernel_rfl, rfl⟩
        refine wpG_cons (gskip fun w_ hJ hd => ?_) ?_
        · have e14 : vals 14 = _ := hd 14 (by decide) (by kernel_rfl)
          rw [e14]
          exact ⟨by kernel_rfl, rfl⟩
        refine wpG_cons (gskip fun w_ hJ hd => ?_) ?_
        · have e14 : vals 14 = _ := hd 14 (by decide) (by kernel_rfl)
          rw [e14]
          exact ⟨by kernel_rfl, rfl⟩
        refine wpG_cons (gskip fun w_ hJ hd => ?_) ?_
        · have e14 : vals 14 = _ := hd 14 (by decide) (by kernel_rfl)
          rw [e14]
          exact ⟨by kernel_rfl, rfl⟩
        refine wpG_cons (gskip fun w_ hJ hd => ?_) ?_
        · have e14 : vals 14 = _ := hd 14 (by decide) (by kernel_rfl)
          rw [e14]
          exact ⟨by kernel_rfl, rfl⟩
        refine wpG_cons (gskip fun w_ hJ hd => ?_) ?_
        · have e14 : vals 14 = _ := hd 14 (by decide) (by kernel_rfl)
          rw [e14]
          exact ⟨by kernel_rfl, rfl⟩
        refine wpG_cons (gskip fun w_ hJ hd => ?_) ?_
        · have e14 : vals 14 = _ := hd 14 (by decide) (by kernel_rfl)
          rw [e14]
          exact ⟨by kernel_rfl, rfl⟩
        refine wpG_cons (gskip fun w_ hJ hd => ?_) ?_
        · have e14 : vals 14 = _ := hd 14 (by decide) (by kernel_rfl)
          rw [e14]
          exact ⟨by kernel_rfl, rfl⟩
        refine wpG_cons (gskip fun w_ hJ hd => ?_) ?_
        · have e14 : vals 14 = _ := hd 14 (by decide) (by kernel_rfl)
          rw [e14]
          exact ⟨by kernel_rfl, rfl⟩
        refine wpG_cons (gskip fun w_ hJ hd => ?_) ?_
        · have e14 : vals 14 = _ := hd 14 (by decide) (by kernel_rfl)
          rw [e14]
          exact ⟨by kernel_rfl, rfl⟩
        refine wpG_cons (gval (.bool true) (fun _ => trivial) fun w_ hJ hd => ?_) wpG_nil
        · have e14 : vals 14 = _ := hd 14 (by decide) (by kernel_rfl)
          have e25 : vals 25 = _ := hd 25 (by decide) (by kernel_rfl)
          rw [e14, e25]
          exact ⟨by kernel_rfl, by kernel_rfl, rfl⟩
      · intro vals w_ hJ hf
        have e0 : vals 0 = _ := hf 0 (by decide)
        have e1 : vals 1 = _ := hf 1 (by decide)
        have e2 : vals 2 = _ := hf 2 (by decide)
        have e3 : vals 3 = _ := hf 3 (by decide)
        have e4 : vals 4 = _ := hf 4 (by decide)
        have e5 : vals 5 = _ := hf 5 (by decide)
        have e6 : vals 6 = _ := hf 6 (by decide)
        have e7 : vals 7 = _ := hf 7 (by decide)
        have e8 : vals 8 = _ := hf 8 (by decide)
        have e9 : vals 9 = _ := hf 9 (by decide)
        have e10 : vals 10 = _ := hf 10 (by decide)
        have e11 : vals 11 = _ := hf 11 (by decide)
        have e12 : vals 12 = _ := hf 12 (by decide)
        have e13 : vals 13 = _ := hf 13 (by decide)
        have e14 : vals 14 = _ := hf 14 (by decide)
        have e15 : vals 15 = _ := hf 15 (by decide)
        have e16 : vals 16 = _ := hf 16 (by decide)
        have e17 : vals 17 = _ := hf 17 (by decide)
        have e18 : vals 18 = _ := hf 18 (by decide)
        have e19 : vals 19 = _ := hf 19 (by decide)
        have e20 : vals 20 = _ := hf 20 (by decide)
        have e21 : vals 21 = _ := hf 21 (by decide)
        have e22 : vals 22 = _ := hf 22 (by decide)
        have e23 : vals 23 = _ := hf 23 (by decide)
        have e24 : vals 24 = _ := hf 24 (by decide)
        have e25 : vals 25 = _ := hf 25 (by decide)
        have e26 : vals 26 = _ := hf 26 (by decide)
        simp only [fillG, Nat.zero_add, Nat.reduceAdd, e0, e1, e2, e3, e4, e5, e6, e7, e8, e9, e10, e11, e12, e13, e14, e15, e16, e17, e18, e19, e20, e21, e22, e23, e24, e25, e26, Act.put, List.setIfInBounds_toArray, List.set_cons_succ, List.set_cons_zero]
        clear e0 e1 e2 e3 e4 e5 e6 e7 e8 e9 e10 e11 e12 e13 e14 e15 e16 e17 e18 e19 e20 e21 e22 e23 e24 e25 e26 hf
        clear h6
        obtain ⟨e0, e1, e2, f0, f1, f2⟩ := cells3f hJ.f2.heap
        have hl4 := lt_of_heap' hJ.f2.heap
        have h7 : Heap w0 (((w_.setCell ⟨k4, 0, none⟩ (.bool false)).setCell ⟨k4, 1, none⟩ (.int .u8 0)).setCell ⟨k4, 2, none⟩ (.int .u64 0)) (HP.blk k4 #[.bool false, .int .u8 0, .int .u64 0] 37 :: HP.blk k6 #[.int .i64 (n : Nat)] 3 :: HP.blk kQ #[ptr b] 24 :: O b (some ⟨g, o, none⟩) cap bs q L) := ((hJ.f2.set 0 (.bool false)).set 1 (.int .u8 0)).set 2 (.int .u64 0)
        have H7 := hide h7
        clear hJ h7
        go_wp2
        exact bodyPost_ret (v := .tuple #[.agg #[.bool false, .int .u8 0, .int .u64 0], .bool false]) (resG rfl rfl rfl (unhide H7).heap) rfl ⟨by rw [unhide hfin]; rfl, Heap.qc (unhide HR).inv (unhide HR).lenl (unhide H7).tail.tail.tail⟩
    | false =>
      have G4 : ∀ w_, Heap w0 w_ (HP.blk k6 #[.int .i64 (n : Nat)] 3 :: HP.blk k4 #[.bool false, .int .u8 0, .int .u64 0] 37 :: HP.blk kQ #[ptr b] 24 :: O b (some ⟨g, o, none⟩) cap bs q L) → w_.cell? ⟨x, 2, none⟩ = some (.bool false) := fun w_ hJ => by rw [← hs]; exact (cells9 (G9 w_ hJ)).2.2.1
      cases hp : e.placed with
      | false =>
        have hfin := hide (show R = (GotS.z, false) by rw [unhide HW, hs, hp]; rfl)
        have G5 : ∀ w_, Heap w0 w_ (HP.blk k6 #[.int .i64 (n : Nat)] 3 :: HP.blk k4 #[.bool false, .int .u8 0, .int .u64 0] 37 :: HP.blk kQ #[ptr b] 24 :: O b (some ⟨g, o, none⟩) cap bs q L) → w_.cell? ⟨x, 3, none⟩ = some (.bool false) := fun w_ hJ => by rw [← hp]; exact (cells9 (G9 w_ hJ)).2.2.2.1
        go_wp2
        rw [unhide HK6]
        refine wp_region_F (fun w_ => Heap w0 w_ (HP.blk k6 #[.int .i64 (n : Nat)] 3 :: HP.blk k4 #[.bool false, .int .u8 0, .int .u64 0] 37 :: HP.blk kQ #[ptr b] 24 :: O b (some ⟨g, o, none⟩) cap bs q L)) (fun _ _ => True) (fun k_ v_ w_ => match k_ with
            | 0 => v_ = .int .i64 (n : Nat)
            | 1 => v_ = .bool false
            | 2 => v_ = .bool false
            | 3 => v_ = .pointer (some ⟨b, 0, none⟩)
            | 4 => v_ = .pointer (some ⟨b, 0, none⟩)
            | 5 => v_ = .pointer (some ⟨b, 0, none⟩)
            | 6 => v_ = .slice (some ⟨g, o, none⟩) q.l.length cap
            | 7 => v_ = .int .i64 (n : Nat)
            | 8 => v_ = .pointer (some ⟨g, o + n, none⟩)
            | 9 => v_ = .pointer (some ⟨x, 0, none⟩)
            | 10 => v_ = .pointer (some ⟨x, 0, none⟩)
            | 11 => v_ = .pointer (some ⟨x, 2, none⟩)
            | 12 => v_ = .bool false
            | 13 => v_ = .bool false
            | 14 => v_ = .bool false
            | 15 => v_ = .pointer (some ⟨b, 0, none⟩)
            | 16 => v_ = .pointer (some ⟨b, 0, none⟩)
            | 17 => v_ = .pointer (some ⟨b, 0, none⟩)
            | 18 => v_ = .slice (some ⟨g, o, none⟩) q.l.length cap
            | 19 => v_ = .int .i64 (n : Nat)
            | 20 => v_ = .pointer (some ⟨g, o + n, none⟩)
            | 21 => v_ = .pointer (some ⟨x, 0, none⟩)
            | 22 => v_ = .pointer (some ⟨x, 0, none⟩)
            | 23 => v_ = .pointer (some ⟨x, 3, none⟩)
            | 24 => v_ = .bool false
            | 25 => v_ = .bool true
            | _ => v_ = .bool true) fol (by kernel_rfl) ?_ ?_ ?_ ?_
        · exact h6.drew
        · intro k_ v_ w_ w2_ h1 hg
          split at h1 <;> exact h1
        · intro vals
          show wpG _ _ _ _ _ _ 0 (_ :: _) _
          refine wpG_cons (gop (Instr.loadAt 3 (.pointer (some ⟨k6, 0, none⟩))) (.int .i64 (n : Nat)) (fun _ => trivial) fun w_ hJ hd => ?_) ?_
          · exact ⟨by kernel_rfl, by kernel_rfl, run_load1 (by kernel_rfl) ((cells1 hJ.heap).1), rfl⟩
          refine wpG_cons (gop (binOp .lss 3 (.int .i64 (n : Nat)) (.int .i64 0)) (.bool false) (fun _ => trivial) fun w_ hJ hd => ?_) ?_
          · have e0 : vals 0 = _ := hd 0 (by decide) (by kernel_rfl)
            rw [e0]
            exact ⟨by kernel_rfl, by kernel_rfl, lss0 n w_, rfl⟩
          refine wpG_cons (gval (.bool false) (fun _ => trivial) fun w_ hJ hd => ?_) ?_
          · have e1 : vals 1 = _ := hd 1 (by decide) (by kernel_rfl)
            rw [e1]
            exact ⟨by kernel_rfl, by kernel_rfl, rfl⟩
          refine wpG_cons (gop (Instr.loadAt 24 (.pointer (some ⟨kQ, 0, none⟩))) (.pointer (some ⟨b, 0, none⟩)) (fun _ => trivial) fun w_ hJ hd => ?_) ?_
          · have e2 : vals 2 = _ := hd 2 (by decide) (by kernel_rfl)
            rw [e2]
            exact ⟨by kernel_rfl, by kernel_rfl, run_load1 (by kernel_rfl) ((cells1 hJ.f3.heap).1), rfl⟩
          refine wpG_cons (gval (.pointer (some ⟨b, 0, none⟩)) (fun _ => trivial) fun w_ hJ hd => ?_) ?_
          · have e2 : vals 2 = _ := hd 2 (by decide) (by kernel_rfl)
            have e3 : vals 3 = _ := hd 3 (by decide) (by kernel_rfl)
            rw [e2, e3]
            exact ⟨by kernel_rfl, by kernel_rfl, rfl⟩
          refine wpG_cons (gval (.pointer (some ⟨b, 0, none⟩)) (fun _ => trivial) fun w_ hJ hd => ?_) ?_
          · have e2 : vals 2 = _ := hd 2 (by decide) (by kernel_rfl)
            have e4 : vals 4 = _ := hd 4 (by decide) (by kernel_rfl)
            rw [e2, e4]
            exact ⟨by kernel_rfl, by kernel_rfl, rfl⟩
          refine wpG_cons (gop (Instr.loadAt 64 (.pointer (some ⟨b, 0, none⟩))) (.slice (some ⟨g, o, none⟩) q.l.length cap) (fun _ => trivial) fun w_ hJ hd => ?_) ?_
          · have e2 : vals 2 = _ := hd 2 (by decide) (by kernel_rfl)
            have e5 : vals 5 = _ := hd 5 (by decide) (by kernel_rfl)
            rw [e2, e5]
            exact ⟨by kernel_rfl, by kernel_rfl, run_load1 (by kernel_rfl) (G2 w_ hJ), rfl⟩
          refine wpG_cons (gop (Instr.loadAt 3 (.pointer (some ⟨k6, 0, none⟩))) (.int .i64 (n : Nat)) (fun _ => trivial) fun w_ hJ hd => ?_) ?_
          · have e2 : vals 2 = _ := hd 2 (by decide) (by kernel_rfl)
            rw [e2]
            exact ⟨by kernel_rfl, by kernel_rfl, run_load1 (by kernel_rfl) ((cells1 hJ.heap).1), rfl⟩
          refine wpG_cons (gop (Instr.indexAt 64 (.slice (some ⟨g, o, none⟩) q.l.length cap) (.int .i64 (n : Nat))) (.pointer (some ⟨g, o + n, none⟩)) (fun _ => trivial) fun w_ hJ hd => ?_) ?_
          · have e2 : vals 2 = _ := hd 2 (by decide) (by kernel_rfl)
            have e6 : vals 6 = _ := hd 6 (by decide) (by kernel_rfl)
            have e7 : vals 7 = _ := hd 7 (by decide) (by kernel_rfl)
            rw [e2, e6, e7]
            exact ⟨by kernel_rfl, by kernel_rfl, (run_ixat 64 74 1 Try.underlying64 (by kernel_rfl) _ _ _ _ _ hnl w_).trans (by rw [Nat.mul_one]), rfl⟩
          refine wpG_cons (gop (Instr.loadAt 74 (.pointer (some ⟨g, o + n, none⟩))) (.pointer (some ⟨x, 0, none⟩)) (fun _ => trivial) fun w_ hJ hd => ?_) ?_
          · have e2 : vals 2 = _ := hd 2 (by decide) (by kernel_rfl)
            have e8 : vals 8 = _ := hd 8 (by decide) (by kernel_rfl)
            rw [e2, e8]
            exact ⟨by kernel_rfl, by kernel_rfl, run_load1 (by kernel_rfl) (G3 w_ hJ), rfl⟩
          refine wpG_cons (gval (.pointer (some ⟨x, 0, none⟩)) (fun _ => trivial) fun w_ hJ hd => ?_) ?_
          · have e2 : vals 2 = _ := hd 2 (by decide) (by kernel_rfl)
            have e9 : vals 9 = _ := hd 9 (by decide) (by kernel_rfl)
            rw [e2, e9]
            exact ⟨by kernel_rfl, by kernel_rfl, rfl⟩
          refine wpG_cons (gval (.pointer (some ⟨x, 2, none⟩)) (fun _ => trivial) fun w_ hJ hd => ?_) ?_
          · have e2 : vals 2 = _ := hd 2 (by decide) (by kernel_rfl)
            have e10 : vals 10 = _ := hd 10 (by decide) (by kernel_rfl)
            rw [e2, e10]
            exact ⟨by kernel_rfl, by kernel_rfl, rfl⟩
          refine wpG_cons (gop (Instr.loadAt 4 (.pointer (some ⟨x, 2, none⟩))) (.bool false) (fun _ => trivial) fun w_ hJ hd => ?_) ?_
          · have e2 : vals 2 = _ := hd 2 (by decide) (by kernel_rfl)
            have e11 : vals 11 = _ := hd 11 (by decide) (by kernel_rfl)
            rw [e2, e11]
            exact ⟨by kernel_rfl, by kernel_rfl, run_load1 (by kernel_rfl) (G4 w_ hJ), rfl⟩
          refine wpG_cons (gval (.bool false) (fun _ => trivial) fun w_ hJ hd => ?_) ?_
          · have e2 : vals 2 = _ := hd 2 (by decide) (by kernel_rfl)
            have e12 : vals 12 = _ := hd 12 (by decide) (by kernel_rfl)
            rw [e2, e12]
            exact ⟨by kernel_rfl, by kernel_rfl, rfl⟩
          refine wpG_cons (gval (.bool false) (fun _ => trivial) fun w_ hJ hd => ?_) ?_
          · have e13 : vals 13 = _ := hd 13 (by decide) (by kernel_rfl)
            rw [e13]
            exact ⟨by kernel_rfl, by kernel_rfl, rfl⟩
          refine wpG_cons (gop (Instr.loadAt 24 (.pointer (some ⟨kQ, 0, none⟩))) (.pointer (some ⟨b, 0, none⟩)) (fun _ => trivial) fun w_ hJ hd => ?_) ?_
          · have e14 : vals 14 = _ := hd 14 (by decide) (by kernel_rfl)
            rw [e14]
            exact ⟨by kernel_rfl, by kernel_rfl, run_load1 (by kernel_rfl) ((cells1 hJ.f3.heap).1), rfl⟩
          refine wpG_cons (gval (.pointer (some ⟨b, 0, none⟩)) (fun _ => trivial) fun w_ hJ hd => ?_) ?_
          · have e14 : vals 14 = _ := hd 14 (by decide) (by kernel_rfl)
            have e15 : vals 15 = _ := hd 15 (by decide) (by kernel_rfl)
            rw [e14, e15]
            exact ⟨by kernel_rfl, by kernel_rfl, rfl⟩
          refine wpG_cons (gval (.pointer (some ⟨b, 0, none⟩)) (fun _ => trivial) fun w_ hJ hd => ?_) ?_
          · have e14 : vals 14 = _ := hd 14 (by decide) (by kernel_rfl)
            have e16 : vals 16 = _ := hd 16 (by decide) (by kernel_rfl)
            rw [e14, e16]
            exact ⟨by kernel_rfl, by kernel_rfl, rfl⟩
          refine wpG_cons (gop (Instr.loadAt 64 (.pointer (some ⟨b, 0, none⟩))) (.slice (some ⟨g, o, none⟩) q.l.length cap) (fun _ => trivial) fun w_ hJ hd => ?_) ?_
          · have e14 : vals 14 = _ := hd 14 (by decide) (by kernel_rfl)
            have e17 : vals 17 = _ := hd 17 (by decide) (by kernel_rfl)
            rw [e14, e17]
            exact ⟨by kernel_rfl, by kernel_rfl, run_load1 (by kernel_rfl) (G2 w_ hJ), rfl⟩
          refine wpG_cons (gop (Instr.loadAt 3 (.pointer (some ⟨k6, 0, none⟩))) (.int .i64 (n : Nat)) (fun _ => trivial) fun w_ hJ hd => ?_) ?_
          · have e14 : vals 14 = _ := hd 14 (by decide) (by kernel_rfl)
            rw [e14]
            exact ⟨by kernel_rfl, by kernel_rfl, run_load1 (by kernel_rfl) ((cells1 hJ.heap).1), rfl⟩
          refine wpG_cons (gop (Instr.indexAt 64 (.slice (some ⟨g, o, none⟩) q.l.length cap) (.int .i64 (n : Nat))) (.pointer (some ⟨g, o + n, none⟩)) (fun _ => trivial) fun w_ hJ hd => ?_) ?_
          · have e14 : vals 14 = _ := hd 14 (by decide) (by kernel_rfl)
            have e18 : vals 18 = _ := hd 18 (by decide) (by kernel_rfl)
            have e19 : vals 19 = _ := hd 19 (by decide) (by kernel_rfl)
            rw [e14, e18, e19]
            exact ⟨by kernel_rfl, by kernel_rfl, (run_ixat 64 74 1 Try.underlying64 (by kernel_rfl) _ _ _ _ _ hnl w_).trans (by rw [Nat.mul_one]), rfl⟩
          refine wpG_cons (gop (Instr.loadAt 74 (.pointer (some ⟨g, o + n, none⟩))) (.pointer (some ⟨x, 0, none⟩)) (fun _ => trivial) fun w_ hJ hd => ?_) ?_
          · have e14 : vals 14 = _ := hd 14 (by decide) (by kernel_rfl)
            have e20 : vals 20 = _ := hd 20 (by decide) (by kernel_rfl)
            rw [e14, e20]
            exact ⟨by kernel_rfl, by kernel_rfl, run_load1 (by kernel_rfl) (G3 w_ hJ), rfl⟩
          refine wpG_cons (gval (.pointer (some ⟨x, 0, none⟩)) (fun _ => trivial) fun w_ hJ hd => ?_) ?_
          · have e14 : vals 14 = _ := hd 14 (by decide) (by kernel_rfl)
            have e21 : vals 21 = _ := hd 21 (by decide) (by kernel_rfl)
            rw [e14, e21]
            exact ⟨by kernel_rfl, by kernel_rfl, rfl⟩
          refine wpG_cons (gval (.pointer (some ⟨x, 3, none⟩)) (fun _ => trivial) fun w_ hJ hd => ?_) ?_
          · have e14 : vals 14 = _ := hd 14 (by decide) (by kernel_rfl)
            have e22 : vals 22 = _ := hd 22 (by decide) (by kernel_rfl)
            rw [e14, e22]
            exact ⟨by kernel_rfl, by kernel_rfl, rfl⟩
          refine wpG_cons (gop (Instr.loadAt 4 (.pointer (some ⟨x, 3, none⟩))) (.bool false) (fun _ => trivial) fun w_ hJ hd => ?_) ?_
          · have e14 : vals 14 = _ := hd 14 (by decide) (by kernel_rfl)
            have e23 : vals 23 = _ := hd 23 (by decide) (by kernel_rfl)
            rw [e14, e23]
            exact ⟨by kernel_rfl, by kernel_rfl, run_load1 (by kernel_rfl) (G5 w_ hJ), rfl⟩
          refine wpG_cons (gval (.bool true) (fun _ => trivial) fun w_ hJ hd => ?_) ?_
          · have e14 : vals 14 = _ := hd 14 (by decide) (by kernel_rfl)
            have e24 : vals 24 = _ := hd 24 (by decide) (by kernel_rfl)
            rw [e14, e24]
            exact ⟨by kernel_rfl, by kernel_rfl, rfl⟩
          refine wpG_cons (gval (.bool true) (fun _ => trivial) fun w_ hJ hd => ?_) wpG_nil
          · have e14 : vals 14 = _ := hd 14 (by decide) (by kernel_rfl)
            have e25 : vals 25 = _ := hd 25 (by decide) (by kernel_rfl)
            rw [e14, e25]
            exact ⟨by kernel_rfl, by kernel_rfl, rfl⟩
        · intro vals w_ hJ hf
          have e0 : vals 0 = _ := hf 0 (by decide)
          have e1 : vals 1 = _ := hf 1 (by decide)
          have e2 : vals 2 = _ := hf 2 (by decide)
          have e3 : vals 3 = _ := hf 3 (by decide)
          have e4 : vals 4 = _ := hf 4 (by decide)
          have e5 : vals 5 = _ := hf 5 (by decide)
          have e6 : vals 6 = _ := hf 6 (by decide)
          have e7 : vals 7 = _ := hf 7 (by decide)
          have e8 : vals 8 = _ := hf 8 (by decide)
          have e9 : vals 9 = _ := hf 9 (by decide)
          have e10 : vals 10 = _ := hf 10 (by decide)
          have e11 : vals 11 = _ := hf 11 (by decide)
          have e12 : vals 12 = _ := hf 12 (by decide)
          have e13 : vals 13 = _ := hf 13 (by decide)
          have e14 : vals 14 = _ := hf 14 (by decide)
          have e15 : vals 15 = _ := hf 15 (by decide)
          have e16 : vals 16 = _ := hf 16 (by decide)
          have e17 : vals 17 = _ := hf 17 (by decide)
          have e18 : vals 18 = _ := hf 18 (by decide)
          have e19 : vals 19 = _ := hf 19 (by decide)
          have e20 : vals 20 = _ := hf 20 (by decide)
          have e21 : vals 21 = _ := hf 21 (by decide)
          have e22 : vals 22 = _ := hf 22 (by decide)
          have e23 : vals 23 = _ := hf 23 (by decide)
          have e24 : vals 24 = _ := hf 24 (by decide)
          have e25 : vals 25 = _ := hf 25 (by decide)
          have e26 : vals 26 = _ := hf 26 (by decide)
          simp only [fillG, Nat.zero_add, Nat.reduceAdd, e0, e1, e2, e3, e4, e5, e6, e7, e8, e9, e10, e11, e12, e13, e14, e15, e16, e17, e18, e19, e20, e21, e22, e23, e24, e25, e26, Act.put, List.setIfInBounds_toArray, List.set_cons_succ, List.set_cons_zero]
          clear e0 e1 e2 e3 e4 e5 e6 e7 e8 e9 e10 e11 e12 e13 e14 e15 e16 e17 e18 e19 e20 e21 e22 e23 e24 e25 e26 hf
          clear h6
          obtain ⟨e0, e1, e2, f0, f1, f2⟩ := cells3f hJ.f2.heap
          have hl4 := lt_of_heap' hJ.f2.heap
          have h7 : Heap w0 (((w_.setCell ⟨k4, 0, none⟩ (.bool false)).setCell ⟨k4, 1, none⟩ (.int .u8 0)).setCell ⟨k4, 2, none⟩ (.int .u64 0)) (HP.blk k4 #[.bool false, .int .u8 0, .int .u64 0] 37 :: HP.blk k6 #[.int .i64 (n : Nat)] 3 :: HP.blk kQ #[ptr b] 24 :: O b (some ⟨g, o, none⟩) cap bs q L) := ((hJ.f2.set 0 (.bool false)).set 1 (.int .u8 0)).set 2 (.int .u64 0)
          have H7 := hide h7
          clear hJ h7
          go_wp2
          exact bodyPost_ret (v := .tuple #[.agg #[.bool false, .int .u8 0, .int .u64 0], .bool false]) (resG rfl rfl rfl (unhide H7).heap) rfl ⟨by rw [unhide hfin]; rfl, Heap.qc (unhide HR).inv (unhide HR).lenl (unhide H7).tail.tail.tail⟩
      | true =>
        have hwq := hide (show R = (lookG q n e, true) by rw [unhide HW, hs, hp]; rfl)
        have G5 : ∀ w_, Heap w0 w_ (HP.blk k6 #[.int .i64 (n : Nat)] 3 :: HP.blk k4 #[.bool false, .int .u8 0, .int .u64 0] 37 :: HP.blk kQ #[ptr b] 24 :: O b (some ⟨g, o, none⟩) cap bs q L) → w_.cell? ⟨x, 3, none⟩ = some (.bool true) := fun w_ hJ => by rw [← hp]; exact (cells9 (G9 w_ hJ)).2.2.2.1
        go_wp2
        rw [unhide HK6]
        refine wp_region_F (fun w_ => Heap w0 w_ (HP.blk k6 #[.int .i64 (n : Nat)] 3 :: HP.blk k4 #[.bool false, .int .u8 0, .int .u64 0] 37 :: HP.blk kQ #[ptr b] 24 :: O b (some ⟨g, o, none⟩) cap bs q L)) (fun _ _ => True) (fun k_ v_ w_ => match k_ with
            | 0 => v_ = .int .i64 (n : Nat)
            | 1 => v_ = .bool false
            | 2 => v_ = .bool false
            | 3 => v_ = .pointer (some ⟨b, 0, none⟩)
            | 4 => v_ = .pointer (some ⟨b, 0, none⟩)
            | 5 => v_ = .pointer (some ⟨b, 0, none⟩)
            | 6 => v_ = .slice (some ⟨g, o, none⟩) q.l.length cap
            | 7 => v_ = .int .i64 (n : Nat)
            | 8 => v_ = .pointer (some ⟨g, o + n, none⟩)
            | 9 => v_ = .pointer (some ⟨x, 0, none⟩)
            | 10 => v_ = .pointer (some ⟨x, 0, none⟩)
            | 11 => v_ = .pointer (some ⟨x, 2, none⟩)
            | 12 => v_ = .bool false
            | 13 => v_ = .bool false
            | 14 => v_ = .bool false
            | 15 => v_ = .pointer (some ⟨b, 0, none⟩)
            | 16 => v_ = .pointer (some ⟨b, 0, none⟩)
            | 17 => v_ = .pointer (some ⟨b, 0, none⟩)
            | 18 => v_ = .slice (some ⟨g, o, none⟩) q.l.length cap
            | 19 => v_ = .int .i64 (n : Nat)
            | 20 => v_ = .pointer (some ⟨g, o + n, none⟩)
            | 21 => v_ = .pointer (some ⟨x, 0, none⟩)
            | 22 => v_ = .pointer (some ⟨x, 0, none⟩)
            | 23 => v_ = .pointer (some ⟨x, 3, none⟩)
            | 24 => v_ = .bool true
            | 25 => v_ = .bool false
            | _ => v_ = .bool false) fol (by kernel_rfl) ?_ ?_ ?_ ?_
        · exact h6.drew
        · intro k_ v_ w_ w2_ h1 hg
          split at h1 <;> exact h1
        · intro vals
          show wpG _ _ _ _ _ _ 0 (_ :: _) _
          refine wpG_cons (gop (Instr.loadAt 3 (.pointer (some ⟨k6, 0, none⟩))) (.int .i64 (n : Nat)) (fun _ => trivial) fun w_ hJ hd => ?_) ?_
          · exact ⟨by kernel_rfl, by kernel_rfl, run_load1 (by kernel_rfl) ((cells1 hJ.heap).1), rfl⟩
          refine wpG_cons (gop (binOp .lss 3 (.int .i64 (n : Nat)) (.int .i64 0)) (.bool false) (fun _ => trivial) fun w_ hJ hd => ?_) ?_
          · have e0 : vals 0 = _ := hd 0 (by decide) (by kernel_rfl)
            rw [e0]
            exact ⟨by kernel_rfl, by kernel_rfl, lss0 n w_, rfl⟩
          refine wpG_cons (gval (.bool false) (fun _ => trivial) fun w_ hJ hd => ?_) ?_
          · have e1 : vals 1 = _ := hd 1 (by decide) (by kernel_rfl)
            rw [e1]
            exact ⟨by kernel_rfl, by kernel_rfl, rfl⟩
          refine wpG_cons (gop (Instr.loadAt 24 (.pointer (some ⟨kQ, 0, none⟩))) (.pointer (some ⟨b, 0, none⟩)) (fun _ => trivial) fun w_ hJ hd => ?_) ?_
          · have e2 : vals 2 = _ := hd 2 (by decide) (by kernel_rfl)
            rw [e2]
            exact ⟨by kernel_rfl, by kernel_rfl, run_load1 (by kernel_rfl) ((cells1 hJ.f3.heap).1), rfl⟩
          refine wpG_cons (gval (.pointer (some ⟨b, 0, none⟩)) (fun _ => trivial) fun w_ hJ hd => ?_) ?_
          · have e2 : vals 2 = _ := hd 2 (by decide) (by kernel_rfl)
            have e3 : vals 3 = _ := hd 3 (by decide) (by kernel_rfl)
            rw [e2, e3]
            exact ⟨by kernel_rfl, by kernel_rfl, rfl⟩
          refine wpG_cons (gval (.pointer (some ⟨b, 0, none⟩)) (fun _ => trivial) fun w_ hJ hd => ?_) ?_
          · have e2 : vals 2 = _ := hd 2 (by decide) (by kernel_rfl)
            have e4 : vals 4 = _ := hd 4 (by decide) (by kernel_rfl)
            rw [e2, e4]
            exact ⟨by kernel_rfl, by kernel_rfl, rfl⟩
          refine wpG_cons (gop (Instr.loadAt 64 (.pointer (some ⟨b, 0, none⟩))) (.slice (some ⟨g, o, none⟩) q.l.length cap) (fun _ => trivial) fun w_ hJ hd => ?_) ?_
          · have e2 : vals 2 = _ := hd 2 (by decide) (by kernel_rfl)
            have e5 : vals 5 = _ := hd 5 (by decide) (by kernel_rfl)
            rw [e2, e5]
            exact ⟨by kernel_rfl, by kernel_rfl, run_load1 (by kernel_rfl) (G2 w_ hJ), rfl⟩
          refine wpG_cons (gop (Instr.loadAt 3 (.pointer (some ⟨k6, 0, none⟩))) (.int .i64 (n : Nat)) (fun _ => trivial) fun w_ hJ hd => ?_) ?_
          · have e2 : vals 2 = _ := hd 2 (by decide) (by kernel_rfl)
            rw [e2]
            exact ⟨by kernel_rfl, by kernel_rfl, run_load1 (by kernel_rfl) ((cells1 hJ.heap).1), rfl⟩
          refine wpG_cons (gop (Instr.indexAt 64 (.slice (some ⟨g, o, none⟩) q.l.length cap) (.int .i64 (n : Nat))) (.pointer (some ⟨g, o + n, none⟩)) (fun _ => trivial) fun w_ hJ hd => ?_) ?_
          · have e2 : vals 2 = _ := hd 2 (by decide) (by kernel_rfl)
            have e6 : vals 6 = _ := hd 6 (by decide) (by kernel_rfl)
            have e7 : vals 7 = _ := hd 7 (by decide) (by kernel_rfl)
            rw [e2, e6, e7]
            exact ⟨by kernel_rfl, by kernel_rfl, (run_ixat 64 74 1 Try.underlying64 (by kernel_rfl) _ _ _ _ _ hnl w_).trans (by rw [Nat.mul_one]), rfl⟩
          refine wpG_cons (gop (Instr.loadAt 74 (.pointer (some ⟨g, o + n, none⟩))) (.pointer (some ⟨x, 0, none⟩)) (fun _ => trivial) fun w_ hJ hd => ?_) ?_
          · have e2 : vals 2 = _ := hd 2 (by decide) (by kernel_rfl)
            have e8 : vals 8 = _ := hd 8 (by decide) (by kernel_rfl)
            rw [e2, e8]
            exact ⟨by kernel_rfl, by kernel_rfl, run_load1 (by kernel_rfl) (G3 w_ hJ), rfl⟩
          refine wpG_cons (gval (.pointer (some ⟨x, 0, none⟩)) (fun _ => trivial) fun w_ hJ hd => ?_) ?_
          · have e2 : vals 2 = _ := hd 2 (by decide) (by kernel_rfl)
            have e9 : vals 9 = _ := hd 9 (by decide) (by kernel_rfl)
            rw [e2, e9]
            exact ⟨by kernel_rfl, by kernel_rfl, rfl⟩
          refine wpG_cons (gval (.pointer (some ⟨x, 2, none⟩)) (fun _ => trivial) fun w_ hJ hd => ?_) ?_
          · have e2 : vals 2 = _ := hd 2 (by decide) (by kernel_rfl)
            have e10 : vals 10 = _ := hd 10 (by decide) (by kernel_rfl)
            rw [e2, e10]
            exact ⟨by kernel_rfl, by kernel_rfl, rfl⟩
          refine wpG_cons (gop (Instr.loadAt 4 (.pointer (some ⟨x, 2, none⟩))) (.bool false) (fun _ => trivial) fun w_ hJ hd => ?_) ?_
          · have e2 : vals 2 = _ := hd 2 (by decide) (by kernel_rfl)
            have e11 : vals 11 = _ := hd 11 (by decide) (by kernel_rfl)
            rw [e2, e11]
            exact ⟨by kernel_rfl, by kernel_rfl, run_load1 (by kernel_rfl) (G4 w_ hJ), rfl⟩
          refine wpG_cons (gval (.bool false) (fun _ => trivial) fun w_ hJ hd => ?_) ?_
          · have e2 : vals 2 = _ := hd 2 (by decide) (by kernel_rfl)
            have e12 : vals 12 = _ := hd 12 (by decide) (by kernel_rfl)
            rw [e2, e12]
            exact ⟨by kernel_rfl, by kernel_rfl, rfl⟩
          refine wpG_cons (gval (.bool false) (fun _ => trivial) fun w_ hJ hd => ?_) ?_
          · have e13 : vals 13 = _ := hd 13 (by decide) (by kernel_rfl)
            rw [e13]
            exact ⟨by kernel_rfl, by kernel_rfl, rfl⟩
          refine wpG_cons (gop (Instr.loadAt 24 (.pointer (some ⟨kQ, 0, none⟩))) (.pointer (some ⟨b, 0, none⟩)) (fun _ => trivial) fun w_ hJ hd => ?_) ?_
          · have e14 : vals 14 = _ := hd 14 (by decide) (by kernel_rfl)
            rw [e14]
            exact ⟨by kernel_rfl, by kernel_rfl, run_load1 (by kernel_rfl) ((cells1 hJ.f3.heap).1), rfl⟩
          refine wpG_cons (gval (.pointer (some ⟨b, 0, none⟩)) (fun _ => trivial) fun w_ hJ hd => ?_) ?_
          · have e14 : vals 14 = _ := hd 14 (by decide) (by kernel_rfl)
            have e15 : vals 15 = _ := hd 15 (by decide) (by kernel_rfl)
            rw [e14, e15]
            exact ⟨by kernel_rfl, by kernel_rfl, rfl⟩
          refine wpG_cons (gval (.pointer (some ⟨b, 0, none⟩)) (fun _ => trivial) fun w_ hJ hd => ?_) ?_
          · have e14 : vals 14 = _ := hd 14 (by decide) (by kernel_rfl)
            have e16 : vals 16 = _ := hd 16 (by decide) (by kernel_rfl)
            rw [e14, e16]
            exact ⟨by kernel_rfl, by kernel_rfl, rfl⟩
          refine wpG_cons (gop (Instr.loadAt 64 (.pointer (some ⟨b, 0, none⟩))) (.slice (some ⟨g, o, none⟩) q.l.length cap) (fun _ => trivial) fun w_ hJ hd => ?_) ?_
          · have e14 : vals 14 = _ := hd 14 (by decide) (by kernel_rfl)
            have e17 : vals 17 = _ := hd 17 (by decide) (by kernel_rfl)
            rw [e14, e17]
            exact ⟨by kernel_rfl, by kernel_rfl, run_load1 (by kernel_rfl) (G2 w_ hJ), rfl⟩
          refine wpG_cons (gop (Instr.loadAt 3 (.pointer (some ⟨k6, 0, none⟩))) (.int .i64 (n : Nat)) (fun _ => trivial) fun w_ hJ hd => ?_) ?_
          · have e14 : vals 14 = _ := hd 14 (by decide) (by kernel_rfl)
            rw [e14]
            exact ⟨by kernel_rfl, by kernel_rfl, run_load1 (by kernel_rfl) ((cells1 hJ.heap).1), rfl⟩
          refine wpG_cons (gop (Instr.indexAt 64 (.slice (some ⟨g, o, none⟩) q.l.length cap) (.int .i64 (n : Nat))) (.pointer (some ⟨g, o + n, none⟩)) (fun _ => trivial) fun w_ hJ hd => ?_) ?_
          · have e14 : vals 14 = _ := hd 14 (by decide) (by kernel_rfl)
            have e18 : vals 18 = _ := hd 18 (by decide) (by kernel_rfl)
            have e19 : vals 19 = _ := hd 19 (by decide) (by kernel_rfl)
            rw [e14, e18, e19]
            exact ⟨by kernel_rfl, by kernel_rfl, (run_ixat 64 74 1 Try.underlying64 (by kernel_rfl) _ _ _ _ _ hnl w_).trans (by rw [Nat.mul_one]), rfl⟩
          refine wpG_cons (gop (Instr.loadAt 74 (.pointer (some ⟨g, o + n, none⟩))) (.pointer (some ⟨x, 0, none⟩)) (fun _ => trivial) fun w_ hJ hd => ?_) ?_
          · have e14 : vals 14 = _ := hd 14 (by decide) (by kernel_rfl)
            have e20 : vals 20 = _ := hd 20 (by decide) (by kernel_rfl)
            rw [e14, e20]
            exact ⟨by kernel_rfl, by kernel_rfl, run_load1 (by kernel_rfl) (G3 w_ hJ), rfl⟩
          refine wpG_cons (gval (.pointer (some ⟨x, 0, none⟩)) (fun _ => trivial) fun w_ hJ hd => ?_) ?_
          · have e14 : vals 14 = _ := hd 14 (by decide) (by kernel_rfl)
            have e21 : vals 21 = _ := hd 21 (by decide) (by kernel_rfl)
            rw [e14, e21]
            exact ⟨by kernel_rfl, by kernel_rfl, rfl⟩
          refine wpG_cons (gval (.pointer (some ⟨x, 3, none⟩)) (fun _ => trivial) fun w_ hJ hd => ?_) ?_
          · have e14 : vals 14 = _ := hd 14 (by decide) (by kernel_rfl)
            have e22 : vals 22 = _ := hd 22 (by decide) (by kernel_rfl)
            rw [e14, e22]
            exact ⟨by kernel_rfl, by kernel_rfl, rfl⟩
          refine wpG_cons (gop (Instr.loadAt 4 (.pointer (some ⟨x, 3, none⟩))) (.bool true) (fun _ => trivial) fun w_ hJ hd => ?_) ?_
          · have e14 : vals 14 = _ := hd 14 (by decide) (by kernel_rfl)
            have e23 : vals 23 = _ := hd 23 (by decide) (by kernel_rfl)
            rw [e14, e23]
            exact ⟨by kernel_rfl, by kernel_rfl, run_load1 (by kernel_rfl) (G5 w_ hJ), rfl⟩
          refine wpG_cons (gval (.bool false) (fun _ => trivial) fun w_ hJ hd => ?_) ?_
          · have e14 : vals 14 = _ := hd 14 (by decide) (by kernel_rfl)
            have e24 : vals 24 = _ := hd 24 (by decide) (by kernel_rfl)
            rw [e14, e24]
            exact ⟨by kernel_rfl, by kernel_rfl, rfl⟩
          refine wpG_cons (gval (.bool false) (fun _ => trivial) fun w_ hJ hd => ?_) wpG_nil
          · have e14 : vals 14 = _ := hd 14 (by decide) (by kernel_rfl)
            have e25 : vals 25 = _ := hd 25 (by decide) (by kernel_rfl)
            rw [e14, e25]
            exact ⟨by kernel_rfl, by kernel_rfl, rfl⟩
        · intro vals w_ hJ hf
          have e0 : vals 0 = _ := hf 0 (by decide)
          have e1 : vals 1 = _ := hf 1 (by decide)
          have e2 : vals 2 = _ := hf 2 (by decide)
          have e3 : vals 3 = _ := hf 3 (by decide)
          have e4 : vals 4 = _ := hf 4 (by decide)
          have e5 : vals 5 = _ := hf 5 (by decide)
          have e6 : vals 6 = _ := hf 6 (by decide)
          have e7 : vals 7 = _ := hf 7 (by decide)
          have e8 : vals 8 = _ := hf 8 (by decide)
          have e9 : vals 9 = _ := hf 9 (by decide)
          have e10 : vals 10 = _ := hf 10 (by decide)
          have e11 : vals 11 = _ := hf 11 (by decide)
          have e12 : vals 12 = _ := hf 12 (by decide)
          have e13 : vals 13 = _ := hf 13 (by decide)
          have e14 : vals 14 = _ := hf 14 (by decide)
          have e15 : vals 15 = _ := hf 15 (by decide)
          have e16 : vals 16 = _ := hf 16 (by decide)
          have e17 : vals 17 = _ := hf 17 (by decide)
          have e18 : vals 18 = _ := hf 18 (by decide)
          have e19 : vals 19 = _ := hf 19 (by decide)
          have e20 : vals 20 = _ := hf 20 (by decide)
          have e21 : vals 21 = _ := hf 21 (by decide)
          have e22 : vals 22 = _ := hf 22 (by decide)
          have e23 : vals 23 = _ := hf 23 (by decide)
          have e24 : vals 24 = _ := hf 24 (by decide)
          have e25 : vals 25 = _ := hf 25 (by decide)
          have e26 : vals 26 = _ := hf 26 (by decide)
          simp only [fillG, Nat.zero_add, Nat.reduceAdd, e0, e1, e2, e3, e4, e5, e6, e7, e8, e9, e10, e11, e12, e13, e14, e15, e16, e17, e18, e19, e20, e21, e22, e23, e24, e25, e26, Act.put, List.setIfInBounds_toArray, List.set_cons_succ, List.set_cons_zero]
          clear e0 e1 e2 e3 e4 e5 e6 e7 e8 e9 e10 e11 e12 e13 e14 e15 e16 e17 e18 e19 e20 e21 e22 e23 e24 e25 e26 hf
          clear h6
          have hpx := ((unhide HR).inv.ok e (List.mem_of_getElem? (unhide He))).pc
          have hn16 : n ≤ 16 := by have := (unhide HR).inv.len; omega
          have hncap : n ≤ cap := by have := (unhide HR).capl; omega
          have hJ7 := hJ.new #[.bool false, .int .u8 0, .int .u64 0] 37
          go_wp2
          obtain ⟨k7, hk7⟩ : ∃ k, w_.heap.size = k := ⟨_, rfl⟩
          rw [hk7] at hJ7 ⊢
          generalize w_.alloc (.cells #[.bool false, .int .u8 0, .int .u64 0] 37) = wB at *
          clear hJ hk7
          refine wp_region_F (fun w_ => Heap w0 w_ (HP.blk k7 #[.bool false, .int .u8 0, .int .u64 0] 37 :: HP.blk k6 #[.int .i64 (n : Nat)] 3 :: HP.blk k4 #[.bool false, .int .u8 0, .int .u64 0] 37 :: HP.blk kQ #[ptr b] 24 :: O b (some ⟨g, o, none⟩) cap bs q L)) (fun _ _ => True) (fun k_ v_ w_ => match k_ with
              | 0 => v_ = .pointer (some ⟨b, 0, none⟩)
              | 1 => v_ = .pointer (some ⟨b, 0, none⟩)
              | 2 => v_ = .pointer (some ⟨b, 0, none⟩)
              | 3 => v_ = .pointer (some ⟨b, 0, none⟩)
              | 4 => v_ = .slice (some ⟨g, o, none⟩) q.l.length cap
              | 5 => v_ = .int .i64 (n : Nat)
              | 6 => v_ = .pointer (some ⟨g, o + n, none⟩)
              | 7 => v_ = .pointer (some ⟨x, 0, none⟩)
              | 8 => v_ = .pointer (some ⟨x, 0, none⟩)
              | 9 => v_ = .pointer (some ⟨x, 1, none⟩)
              | 10 => v_ = .int .u64 e.pc
              | 11 => v_ = .pointer (some ⟨b, 1 + rowN e.pc * 2, none⟩)
              | _ => v_ = .pointer (some ⟨b, 1 + rowN e.pc * 2, none⟩)) fol (by kernel_rfl) ?_ ?_ ?_ ?_
          · exact hJ7.drew
          · intro k_ v_ w_ w2_ h1 hg
            split at h1 <;> exact h1
          · intro vals
            show wpG _ _ _ _ _ _ 0 (_ :: _) _
            refine wpG_cons (gop (Instr.loadAt 24 (.pointer (some ⟨kQ, 0, none⟩))) (.pointer (some ⟨b, 0, none⟩)) (fun _ => trivial) fun w_ hJ hd => ?_) ?_
            · exact ⟨by kernel_rfl, by kernel_rfl, run_load1 (by kernel_rfl) ((cells1 hJ.f4.heap).1), rfl⟩
            refine wpG_cons (gop (Instr.loadAt 24 (.pointer (some ⟨kQ, 0, none⟩))) (.pointer (some ⟨b, 0, none⟩)) (fun _ => trivial) fun w_ hJ hd => ?_) ?_
            · exact ⟨by kernel_rfl, by kernel_rfl, run_load1 (by kernel_rfl) ((cells1 hJ.f4.heap).1), rfl⟩
            refine wpG_cons (gval (.pointer (some ⟨b, 0, none⟩)) (fun _ => trivial) fun w_ hJ hd => ?_) ?_
            · have e1 : vals 1 = _ := hd 1 (by decide) (by kernel_rfl)
              rw [e1]
              exact ⟨by kernel_rfl, by kernel_rfl, rfl⟩
            refine wpG_cons (gval (.pointer (some ⟨b, 0, none⟩)) (fun _ => trivial) fun w_ hJ hd => ?_) ?_
            · have e2 : vals 2 = _ := hd 2 (by decide) (by kernel_rfl)
              rw [e2]
              exact ⟨by kernel_rfl, by kernel_rfl, rfl⟩
            refine wpG_cons (gop (Instr.loadAt 64 (.pointer (some ⟨b, 0, none⟩))) (.slice (some ⟨g, o, none⟩) q.l.length cap) (fun _ => trivial) fun w_ hJ hd => ?_) ?_
            · have e3 : vals 3 = _ := hd 3 (by decide) (by kernel_rfl)
              rw [e3]
              exact ⟨by kernel_rfl, by kernel_rfl, run_load1 (by kernel_rfl) (G2 w_ hJ.tail), rfl⟩
            refine wpG_cons (gop (Instr.loadAt 3 (.pointer (some ⟨k6, 0, none⟩))) (.int .i64 (n : Nat)) (fun _ => trivial) fun w_ hJ hd => ?_) ?_
            · exact ⟨by kernel_rfl, by kernel_rfl, run_load1 (by kernel_rfl) ((cells1 hJ.f2.heap).1), rfl⟩
            refine wpG_cons (gop (Instr.indexAt 64 (.slice (some ⟨g, o, none⟩) q.l.length cap) (.int .i64 (n : Nat))) (.pointer (some ⟨g, o + n, none⟩)) (fun _ => trivial) fun w_ hJ hd => ?_) ?_
            · have e4 : vals 4 = _ := hd 4 (by decide) (by kernel_rfl)
              have e5 : vals 5 = _ := hd 5 (by decide) (by kernel_rfl)
              rw [e4, e5]
              exact ⟨by kernel_rfl, by kernel_rfl, (run_ixat 64 74 1 Try.underlying64 (by kernel_rfl) _ _ _ _ _ hnl w_).trans (by rw [Nat.mul_one]), rfl⟩
            refine wpG_cons (gop (Instr.loadAt 74 (.pointer (some ⟨g, o + n, none⟩))) (.pointer (some ⟨x, 0, none⟩)) (fun _ => trivial) fun w_ hJ hd => ?_) ?_
            · have e6 : vals 6 = _ := hd 6 (by decide) (by kernel_rfl)
              rw [e6]
              exact ⟨by kernel_rfl, by kernel_rfl, run_load1 (by kernel_rfl) (G3 w_ hJ.tail), rfl⟩
            refine wpG_cons (gval (.pointer (some ⟨x, 0, none⟩)) (fun _ => trivial) fun w_ hJ hd => ?_) ?_
            · have e7 : vals 7 = _ := hd 7 (by decide) (by kernel_rfl)
              rw [e7]
              exact ⟨by kernel_rfl, by kernel_rfl, rfl⟩
            refine wpG_cons (gval (.pointer (some ⟨x, 1, none⟩)) (fun _ => trivial) fun w_ hJ hd => ?_) ?_
            · have e8 : vals 8 = _ := hd 8 (by decide) (by kernel_rfl)
              rw [e8]
              exact ⟨by kernel_rfl, by kernel_rfl, rfl⟩
            refine wpG_cons (gop (Instr.loadAt 28 (.pointer (some ⟨x, 1, none⟩))) (.int .u64 e.pc) (fun _ => trivial) fun w_ hJ hd => ?_) ?_
            · have e9 : vals 9 = _ := hd 9 (by decide) (by kernel_rfl)
              rw [e9]
              exact ⟨by kernel_rfl, by kernel_rfl, run_load1 (by kernel_rfl) ((cells9 (G9 w_ hJ.tail)).2.1), rfl⟩
            refine wpG_cons (gcall 38 #[.pointer (some ⟨b, 0, none⟩), .int .u64 e.pc] fun w_ hJ hd => ?_) ?_
            · have e0 : vals 0 = _ := hd 0 (by decide) (by kernel_rfl)
              have e10 : vals 10 = _ := hd 10 (by decide) (by kernel_rfl)
              rw [e0, e10]
              exact ⟨by kernel_rfl, by kernel_rfl, (habit_any b e.pc hpx.1 hpx.2).mono fun e w' ⟨hr, hw⟩ => ⟨_, hr, by rw [hw]; exact hJ, trivial, rfl⟩⟩
            refine wpG_cons (gval (.pointer (some ⟨b, 1 + rowN e.pc * 2, none⟩)) (fun _ => trivial) fun w_ hJ hd => ?_) wpG_nil
            · have e11 : vals 11 = _ := hd 11 (by decide) (by kernel_rfl)
              rw [e11]
              exact ⟨by kernel_rfl, by kernel_rfl, rfl⟩
          · intro vals w_ hJ hf
            have e0 : vals 0 = _ := hf 0 (by decide)
            have e1 : vals 1 = _ := hf 1 (by decide)
            have e2 : vals 2 = _ := hf 2 (by decide)
            have e3 : vals 3 = _ := hf 3 (by decide)
            have e4 : vals 4 = _ := hf 4 (by decide)
            have e5 : vals 5 = _ := hf 5 (by decide)
            have e6 : vals 6 = _ := hf 6 (by decide)
            have e7 : vals 7 = _ := hf 7 (by decide)
            have e8 : vals 8 = _ := hf 8 (by decide)
            have e9 : vals 9 = _ := hf 9 (by decide)
            have e10 : vals 10 = _ := hf 10 (by decide)
            have e11 : vals 11 = _ := hf 11 (by decide)
            have e12 : vals 12 = _ := hf 12 (by decide)
            simp only [fillG, Nat.zero_add, Nat.reduceAdd, e0, e1, e2, e3, e4, e5, e6, e7, e8, e9, e10, e11, e12, Act.put, List.setIfInBounds_toArray, List.set_cons_succ, List.set_cons_zero]
            clear e0 e1 e2 e3 e4 e5 e6 e7 e8 e9 e10 e11 e12 hf
            clear hJ7
            go_wp2
            refine wp_region_F (fun w_ => Heap w0 w_ (HP.blk k7 #[.bool false, .int .u8 0, .int .u64 0] 37 :: HP.blk k6 #[.int .i64 (n : Nat)] 3 :: HP.blk k4 #[.bool false, .int .u8 0, .int .u64 0] 37 :: HP.blk kQ #[ptr b] 24 :: O b (some ⟨g, o, none⟩) cap bs q L)) (fun _ _ => True) (fun k_ v_ w_ => match k_ with
                | 0 => v_ = .pointer (some ⟨b, 0, none⟩)
                | 1 => v_ = .pointer (some ⟨b, 0, none⟩)
                | 2 => v_ = .pointer (some ⟨b, 0, none⟩)
                | 3 => v_ = .slice (some ⟨g, o, none⟩) q.l.length cap
                | 4 => v_ = .int .i64 (n : Nat)
                | 5 => v_ = .slice (some ⟨g, o, none⟩) n cap
                | 6 => v_ = .int .i64 (n : Nat)
                | _ => v_ = .int .i64 0) fol (by kernel_rfl) ?_ ?_ ?_ ?_
            · exact hJ.drew
            · intro k_ v_ w_ w2_ h1 hg
              split at h1 <;> exact h1
            · intro vals
              show wpG _ _ _ _ _ _ 0 (_ :: _) _
              refine wpG_cons (gop (Instr.loadAt 24 (.pointer (some ⟨kQ, 0, none⟩))) (.pointer (some ⟨b, 0, none⟩)) (fun _ => trivial) fun w_ hJ hd => ?_) ?_
              · exact ⟨by kernel_rfl, by kernel_rfl, run_load1 (by kernel_rfl) ((cells1 hJ.f4.heap).1), rfl⟩
              refine wpG_cons (gval (.pointer (some ⟨b, 0, none⟩)) (fun _ => trivial) fun w_ hJ hd => ?_) ?_
              · have e0 : vals 0 = _ := hd 0 (by decide) (by kernel_rfl)
                rw [e0]
                exact ⟨by kernel_rfl, by kernel_rfl, rfl⟩
              refine wpG_cons (gval (.pointer (some ⟨b, 0, none⟩)) (fun _ => trivial) fun w_ hJ hd => ?_) ?_
              · have e1 : vals 1 = _ := hd 1 (by decide) (by kernel_rfl)
                rw [e1]
                exact ⟨by kernel_rfl, by kernel_rfl, rfl⟩
              refine wpG_cons (gop (Instr.loadAt 64 (.pointer (some ⟨b, 0, none⟩))) (.slice (some ⟨g, o, none⟩) q.l.length cap) (fun _ => trivial) fun w_ hJ hd => ?_) ?_
              · have e2 : vals 2 = _ := hd 2 (by decide) (by kernel_rfl)
                rw [e2]
                exact ⟨by kernel_rfl, by kernel_rfl, run_load1 (by kernel_rfl) (G2 w_ hJ.tail), rfl⟩
              refine wpG_cons (gop (Instr.loadAt 3 (.pointer (some ⟨k6, 0, none⟩))) (.int .i64 (n : Nat)) (fun _ => trivial) fun w_ hJ hd => ?_) ?_
              · exact ⟨by kernel_rfl, by kernel_rfl, run_load1 (by kernel_rfl) ((cells1 hJ.f2.heap).1), rfl⟩
              refine wpG_cons (gop (Instr.sliceAt 64 (.slice (some ⟨g, o, none⟩) q.l.length cap) none (some (.int .i64 (n : Nat))) none) (.slice (some ⟨g, o, none⟩) n cap) (fun _ => trivial) fun w_ hJ hd => ?_) ?_
              · have e3 : vals 3 = _ := hd 3 (by decide) (by kernel_rfl)
                have e4 : vals 4 = _ := hd 4 (by decide) (by kernel_rfl)
                rw [e3, e4]
                exact ⟨by kernel_rfl, by kernel_rfl, slH hncap w_, rfl⟩
              refine wpG_cons (gval (.int .i64 (n : Nat)) (fun _ => trivial) fun w_ hJ hd => ?_) ?_
              · have e5 : vals 5 = _ := hd 5 (by decide) (by kernel_rfl)
                rw [e5]
                exact ⟨by kernel_rfl, by kernel_rfl, rfl⟩
              refine wpG_cons (gval (.int .i64 0) (fun _ => trivial) fun w_ hJ hd => ?_) wpG_nil
              · exact ⟨by kernel_rfl, by kernel_rfl, rfl⟩
            · intro vals w_ hJ hf
              have e0 : vals 0 = _ := hf 0 (by decide)
              have e1 : vals 1 = _ := hf 1 (by decide)
              have e2 : vals 2 = _ := hf 2 (by decide)
              have e3 : vals 3 = _ := hf 3 (by decide)
              have e4 : vals 4 = _ := hf 4 (by decide)
              have e5 : vals 5 = _ := hf 5 (by decide)
              have e6 : vals 6 = _ := hf 6 (by decide)
              have e7 : vals 7 = _ := hf 7 (by decide)
              simp only [fillG, Nat.zero_add, Nat.reduceAdd, e0, e1, e2, e3, e4, e5, e6, e7, Act.put, List.setIfInBounds_toArray, List.set_cons_succ, List.set_cons_zero]
              clear e0 e1 e2 e3 e4 e5 e6 e7 hf
              have hup : ∀ k xk, q.l[k]? = some xk → waitN q e (k + 1) = (waitN q e k || (xk.store && !xk.placed && (q.h (rowN e.pc)).2 && ((q.h (rowN e.pc)).1 == xk.pc))) := fun k xk hk => by unfold waitN; rw [List.take_add_one, hk, List.any_append]; simp
              have HJ := hide hJ
              clear hJ
              go_wp2
              go_loopw [61] (fun v wr => ∃ k : Nat, v = .int .i64 k ∧ k ≤ n ∧ Heap w0 wr (HP.blk k7 #[.bool (waitN q e k), .int .u8 0, .int .u64 0] 37 :: HP.blk k6 #[.int .i64 (n : Nat)] 3 :: HP.blk k4 #[.bool false, .int .u8 0, .int .u64 0] 37 :: HP.blk kQ #[ptr b] 24 :: O b (some ⟨g, o, none⟩) cap bs q L)) (fun v _ => n - (intOf v).toNat)
              case atStart => exact ⟨0, rfl, Nat.zero_le _, unhide HJ⟩
              case round =>
                obtain ⟨k, rfl, hk, hJ⟩ := hrel
                clear HJ
                by_cases hlt : k < n
                · obtain ⟨xk, hxk⟩ : ∃ xk, q.l[k]? = some xk := ⟨_, List.getElem?_eq_getElem (by omega)⟩
                  obtain ⟨y, hy⟩ : ∃ y, bs[k]? = some y := ⟨_, List.getElem?_eq_getElem (by rw [(unhide HR).lenl]; omega)⟩
                  have hupk := hup k xk hxk
                  have cg := gptr (Heap.rq (unhide HR).ok hJ.tail.tail.tail.tail) hxk hy
                  unfold ptr at cg
                  have YA : ∀ (c : Bool) (w_ : World), Heap w0 w_ (HP.blk k7 #[.bool c, .int .u8 0, .int .u64 0] 37 :: HP.blk k6 #[.int .i64 (n : Nat)] 3 :: HP.blk k4 #[.bool false, .int .u8 0, .int .u64 0] 37 :: HP.blk kQ #[ptr b] 24 :: O b (some ⟨g, o, none⟩) cap bs q L) → w_.heap[y]? = some (.cells xk.cs.toArray 76 (0, 0)) := fun c w_ hJ => (Heap.f7 hJ).ents_get hy hxk
                  have Y1 : ∀ (c : Bool) (w_ : World), Heap w0 w_ (HP.blk k7 #[.bool c, .int .u8 0, .int .u64 0] 37 :: HP.blk k6 #[.int .i64 (n : Nat)] 3 :: HP.blk k4 #[.bool false, .int .u8 0, .int .u64 0] 37 :: HP.blk kQ #[ptr b] 24 :: O b (some ⟨g, o, none⟩) cap bs q L) → w_.cell? ⟨y, 1, none⟩ = some (.int .u64 xk.pc) := fun c w_ hJ => (cells9 (YA c w_ hJ)).2.1
                  have Y2 : ∀ (c : Bool) (w_ : World), Heap w0 w_ (HP.blk k7 #[.bool c, .int .u8 0, .int .u64 0] 37 :: HP.blk k6 #[.int .i64 (n : Nat)] 3 :: HP.blk k4 #[.bool false, .int .u8 0, .int .u64 0] 37 :: HP.blk kQ #[ptr b] 24 :: O b (some ⟨g, o, none⟩) cap bs q L) → w_.cell? ⟨y, 2, none⟩ = some (.bool xk.store) := fun c w_ hJ => (cells9 (YA c w_ hJ)).2.2.1
                  have Y3 : ∀ (c : Bool) (w_ : World), Heap w0 w_ (HP.blk k7 #[.bool c, .int .u8 0, .int .u64 0] 37 :: HP.blk k6 #[.int .i64 (n : Nat)] 3 :: HP.blk k4 #[.bool false, .int .u8 0, .int .u64 0] 37 :: HP.blk kQ #[ptr b] 24 :: O b (some ⟨g, o, none⟩) cap bs q L) → w_.cell? ⟨y, 3, none⟩ = some (.bool xk.placed) := fun c w_ hJ => (cells9 (YA c w_ hJ)).2.2.2.1
                  have YH : ∀ (c : Bool) (w_ : World), Heap w0 w_ (HP.blk k7 #[.bool c, .int .u8 0, .int .u64 0] 37 :: HP.blk k6 #[.int .i64 (n : Nat)] 3 :: HP.blk k4 #[.bool false, .int .u8 0, .int .u64 0] 37 :: HP.blk kQ #[ptr b] 24 :: O b (some ⟨g, o, none⟩) cap bs q L) → w_.cell? ⟨b, 1 + rowN e.pc * 2, none⟩ = some (.int .u64 (q.h (rowN e.pc)).1) ∧ w_.cell? ⟨b, 1 + rowN e.pc * 2 + 1, none⟩ = some (.bool (q.h (rowN e.pc)).2) := fun c w_ hJ => (Heap.rq (unhide HR).ok hJ.tail.tail.tail.tail).hab (rowN_lt e.pc)
                  have Y4 : ∀ (c : Bool) (w_ : World), Heap w0 w_ (HP.blk k7 #[.bool c, .int .u8 0, .int .u64 0] 37 :: HP.blk k6 #[.int .i64 (n : Nat)] 3 :: HP.blk k4 #[.bool false, .int .u8 0, .int .u64 0] 37 :: HP.blk kQ #[ptr b] 24 :: O b (some ⟨g, o, none⟩) cap bs q L) → w_.cell? ⟨b, 1 + rowN e.pc * 2 + 1, none⟩ = some (.bool (q.h (rowN e.pc)).2) := fun c w_ hJ => (YH c w_ hJ).2
                  have Y5 : ∀ (c : Bool) (w_ : World), Heap w0 w_ (HP.blk k7 #[.bool c, .int .u8 0, .int .u64 0] 37 :: HP.blk k6 #[.int .i64 (n : Nat)] 3 :: HP.blk k4 #[.bool false, .int .u8 0, .int .u64 0] 37 :: HP.blk kQ #[ptr b] 24 :: O b (some ⟨g, o, none⟩) cap bs q L) → w_.cell? ⟨b, 1 + rowN e.pc * 2, none⟩ = some (.int .u64 (q.h (rowN e.pc)).1) := fun c w_ hJ => (YH c w_ hJ).1
                  clear YH hup hxk hy
                  cases hwk : waitN q e k with
                  | true =>
                    rw [hwk] at hJ
                    go_wp2
                    refine wp_region_E (fun w_ => Heap w0 w_ (HP.blk k7 #[.bool true, .int .u8 0, .int .u64 0] 37 :: HP.blk k6 #[.int .i64 (n : Nat)] 3 :: HP.blk k4 #[.bool false, .int .u8 0, .int .u64 0] 37 :: HP.blk kQ #[ptr b] 24 :: O b (some ⟨g, o, none⟩) cap bs q L)) (fun _ _ => True) (fun k_ v_ w_ => match k_ with
                        | 0 => v_ = .pointer (some ⟨k7, 0, none⟩)
                        | 1 => v_ = .bool true
                        | 2 => v_ = .bool true
                        | 3 => v_ = undef
                        | 4 => v_ = undef
                        | 5 => v_ = undef
                        | 6 => v_ = undef
                        | 7 => v_ = undef
                        | 8 => v_ = undef
                        | 9 => v_ = undef
                        | 10 => v_ = undef
                        | 11 => v_ = undef
                        | 12 => v_ = undef
                        | 13 => v_ = undef
                        | 14 => v_ = undef
                        | 15 => v_ = undef
                        | 16 => v_ = undef
                        | 17 => v_ = undef
                        | 18 => v_ = undef
                        | 19 => v_ = undef
                        | 20 => v_ = undef
                        | 21 => v_ = undef
                        | 22 => v_ = undef
                        | 23 => v_ = undef
                        | 24 => v_ = undef
                        | 25 => v_ = undef
                        | 26 => v_ = undef
                        | 27 => v_ = undef
                        | 28 => v_ = undef
                        | 29 => v_ = undef
                        | 30 => v_ = undef
                        | 31 => v_ = .bool true
                        | _ => v_ = .pointer (some ⟨k7, 0, none⟩)) fol (by kernel_rfl) ?_ ?_ (n := 33) rfl rfl rfl (by kernel_rfl) ?_ ?_
                    · exact hJ.drew
                    · intro k_ v_ w_ w2_ h1 hg
                      split at h1 <;> exact h1
                    · intro vals
                      show wpG _ _ _ _ _ _ 0 (_ :: _) _
                      refine wpG_cons (gval (.pointer (some ⟨k7, 0, none⟩)) (fun _ => trivial) fun w_ hJ hd => ?_) ?_
                      · exact ⟨by kernel_rfl, by kernel_rfl, rfl⟩
                      refine wpG_cons (gop (Instr.loadAt 4 (.pointer (some ⟨k7, 0, none⟩))) (.bool true) (fun _ => trivial) fun w_ hJ hd => ?_) ?_
                      · have e0 : vals 0 = _ := hd 0 (by decide) (by kernel_rfl)
                        rw [e0]
                        exact ⟨by kernel_rfl, by kernel_rfl, run_load1 (by kernel_rfl) ((cells3f hJ.heap).1), rfl⟩
                      refine wpG_cons (gval (.bool true) (fun _ => trivial) fun w_ hJ hd => ?_) ?_
                      · have e1 : vals 1 = _ := hd 1 (by decide) (by kernel_rfl)
                        rw [e1]
                        exact ⟨by kernel_rfl, by kernel_rfl, rfl⟩
                      refine wpG_cons (gskip fun w_ hJ hd => ?_) ?_
                      · have e2 : vals 2 = _ := hd 2 (by decide) (by kernel_rfl)
                        rw [e2]
                        exact ⟨by kernel_rfl, rfl⟩
                      refine wpG_cons (gskip fun w_ hJ hd => ?_) ?_
                      · have e2 : vals 2 = _ := hd 2 (by decide) (by kernel_rfl)
                        rw [e2]
                        exact ⟨by kernel_rfl, rfl⟩
                      refine wpG_cons (gskip fun w_ hJ hd => ?_) ?_
                      · have e2 : vals 2 = _ := hd 2 (by decide) (by kernel_rfl)
                        rw [e2]
                        exact ⟨by kernel_rfl, rfl⟩
                      refine wpG_cons (gskip fun w_ hJ hd => ?_) ?_
                      · have e2 : vals 2 = _ := hd 2 (by decide) (by kernel_rfl)
                        rw [e2]
                        exact ⟨by kernel_rfl, rfl⟩
                      refine wpG_cons (gskip fun w_ hJ hd => ?_) ?_
                      · have e2 : vals 2 = _ := hd 2 (by decide) (by kernel_rfl)
                        rw [e2]
                        exact ⟨by kernel_rfl, rfl⟩
                      refine wpG_cons (gskip fun w_ hJ hd => ?_) ?_
                      · have e7 : vals 7 = _ := hd 7 (by decide) (by kernel_rfl)
                        rw [e7]
                        exact ⟨by kernel_rfl, rfl⟩
                      refine wpG_cons (gskip fun w_ hJ hd => ?_) ?_
                      · have e7 : vals 7 = _ := hd 7 (by decide) (by kernel_rfl)
                        rw [e7]
                        exact ⟨by kernel_rfl, rfl⟩
                      refine wpG_cons (gskip fun w_ hJ hd => ?_) ?_
                      · have e7 : vals 7 = _ := hd 7 (by decide) (by kernel_rfl)
                        rw [e7]
                        exact ⟨by kernel_rfl, rfl⟩
                      refine wpG_cons (gskip fun w_ hJ hd => ?_) ?_
                      · have e7 : vals 7 = _ := hd 7 (by decide) (by kernel_rfl)
                        rw [e7]
                        exact ⟨by kernel_rfl, rfl⟩
                      refine wpG_cons (gskip fun w_ hJ hd => ?_) ?_
                      · have e7 : vals 7 = _ := hd 7 (by decide) (by kernel_rfl)
                        rw [e7]
                        exact ⟨by kernel_rfl, rfl⟩
                      refine wpG_cons (gskip fun w_ hJ hd => ?_) ?_
                      · have e2 : vals 2 = _ := hd 2 (by decide) (by kernel_rfl)
                        rw [e2]
                        exact ⟨by kernel_rfl, rfl⟩
                      refine wpG_cons (gskip fun w_ hJ hd => ?_) ?_
                      · have e2 : vals 2 = _ := hd 2 (by decide) (by kernel_rfl)
                        rw [e2]
                        exact ⟨by kernel_rfl, rfl⟩
                      refine wpG_cons (gskip fun w_ hJ hd => ?_) ?_
                      · have e14 : vals 14 = _ := hd 14 (by decide) (by kernel_rfl)
                        rw [e14]
                        exact ⟨by kernel_rfl, rfl⟩
                      refine wpG_cons (gskip fun w_ hJ hd => ?_) ?_
                      · have e14 : vals 14 = _ := hd 14 (by decide) (by kernel_rfl)
                        rw [e14]
                        exact ⟨by kernel_rfl, rfl⟩
                      refine wpG_cons (gskip fun w_ hJ hd => ?_) ?_
                      · have e14 : vals 14 = _ := hd 14 (by decide) (by kernel_rfl)
                        rw [e14]
                        exact ⟨by kernel_rfl, rfl⟩
                      refine wpG_cons (gskip fun w_ hJ hd => ?_) ?_
                      · have e14 : vals 14 = _ := hd 14 (by decide) (by kernel_rfl)
                        rw [e14]
                        exact ⟨by kernel_rfl, rfl⟩
                      refine wpG_cons (gskip fun w_ hJ hd => ?_) ?_
                      · have e2 : vals 2 = _ := hd 2 (by decide) (by kernel_rfl)
                        rw [e2]
                        exact ⟨by kernel_rfl, rfl⟩
                      refine wpG_cons (gskip fun w_ hJ hd => ?_) ?_
                      · have e2 : vals 2 = _ := hd 2 (by decide) (by kernel_rfl)
                        rw [e2]
                        exact ⟨by kernel_rfl, rfl⟩
                      refine wpG_cons (gskip fun w_ hJ hd => ?_) ?_
                      · have e20 : vals 20 = _ := hd 20 (by decide) (by kernel_rfl)
                        rw [e20]
                        exact ⟨by kernel_rfl, rfl⟩
                      refine wpG_cons (gskip fun w_ hJ hd => ?_) ?_
                      · have e20 : vals 20 = _ := hd 20 (by decide) (by kernel_rfl)
                        rw [e20]
                        exact ⟨by kernel_rfl, rfl⟩
                      refine wpG_cons (gskip fun w_ hJ hd => ?_) ?_
                      · have e20 : vals 20 = _ := hd 20 (by decide) (by kernel_rfl)
                        rw [e20]
                        exact ⟨by kernel_rfl, rfl⟩
                      refine wpG_cons (gskip fun w_ hJ hd => ?_) ?_
                      · have e20 : vals 20 = _ := hd 20 (by decide) (by kernel_rfl)
                        rw [e20]
                        exact ⟨by kernel_rfl, rfl⟩
                      refine wpG_cons (gskip fun w_ hJ hd => ?_) ?_
                      · have e20 : vals 20 = _ := hd 20 (by decide) (by kernel_rfl)
                        rw [e20]
                        exact ⟨by kernel_rfl, rfl⟩
                      refine wpG_cons (gskip fun w_ hJ hd => ?_) ?_
                      · have e20 : vals 20 = _ := hd 20 (by decide) (by kernel_rfl)
                        rw [e20]
                        exact ⟨by kernel_rfl, rfl⟩
                      refine wpG_cons (gskip fun w_ hJ hd => ?_) ?_
                      · have e20 : vals 20 = _ := hd 20 (by decide) (by kernel_rfl)
                        rw [e20]
                        exact ⟨by kernel_rfl, rfl⟩
                      refine wpG_cons (gskip fun w_ hJ hd => ?_) ?_
                      · have e20 : vals 20 = _ := hd 20 (by decide) (by kernel_rfl)
                        rw [e20]
                        exact ⟨by kernel_rfl, rfl⟩
                      refine wpG_cons (gskip fun w_ hJ hd => ?_) ?_
                      · have e20 : vals 20 = _ := hd 20 (by decide) (by kernel_rfl)
                        rw [e20]
                        exact ⟨by kernel_rfl, rfl⟩
                      refine wpG_cons (gskip fun w_ hJ hd => ?_) ?_
                      · have e2 : vals 2 = _ := hd 2 (by decide) (by kernel_rfl)
                        rw [e2]
                        exact ⟨by kernel_rfl, rfl⟩
                      refine wpG_cons (gval (.bool true) (fun _ => trivial) fun w_ hJ hd => ?_) ?_
                      · have e2 : vals 2 = _ := hd 2 (by decide) (by kernel_rfl)
                        have e30 : vals 30 = _ := hd 30 (by decide) (by kernel_rfl)
                        rw [e2, e30]
                        exact ⟨by kernel_rfl, by kernel_rfl, rfl⟩
                      refine wpG_cons (gval (.pointer (some ⟨k7, 0, none⟩)) (fun _ => trivial) fun w_ hJ hd => ?_) wpG_nil
                      · exact ⟨by kernel_rfl, by kernel_rfl, rfl⟩
                    · intro vals w_ hJ hf
                      have e0 : vals 0 = _ := hf 0 (by decide)
                      have e1 : vals 1 = _ := hf 1 (by decide)
                      have e2 : vals 2 = _ := hf 2 (by decide)
                      have e3 : vals 3 = _ := hf 3 (by decide)
                      have e4 : vals 4 = _ := hf 4 (by decide)
                      have e5 : vals 5 = _ := hf 5 (by decide)
                      have e6 : vals 6 = _ := hf 6 (by decide)
                      have e7 : vals 7 = _ := hf 7 (by decide)
                      have e8 : vals 8 = _ := hf 8 (by decide)
                      have e9 : vals 9 = _ := hf 9 (by decide)
                      have e10 : vals 10 = _ := hf 10 (by decide)
                      have e11 : vals 11 = _ := hf 11 (by decide)
                      have e12 : vals 12 = _ := hf 12 (by decide)
                      have e13 : vals 13 = _ := hf 13 (by decide)
                      have e14 : vals 14 = _ := hf 14 (by decide)
                      have e15 : vals 15 = _ := hf 15 (by decide)
                      have e16 : vals 16 = _ := hf 16 (by decide)
                      have e17 : vals 17 = _ := hf 17 (by decide)
                      have e18 : vals 18 = _ := hf 18 (by decide)
                      have e19 : vals 19 = _ := hf 19 (by decide)
                      have e20 : vals 20 = _ := hf 20 (by decide)
                      have e21 : vals 21 = _ := hf 21 (by decide)
                      have e22 : vals 22 = _ := hf 22 (by decide)
                      have e23 : vals 23 = _ := hf 23 (by decide)
                      have e24 : vals 24 = _ := hf 24 (by decide)
                      have e25 : vals 25 = _ := hf 25 (by decide)
                      have e26 : vals 26 = _ := hf 26 (by decide)
                      have e27 : vals 27 = _ := hf 27 (by decide)
                      have e28 : vals 28 = _ := hf 28 (by decide)
                      have e29 : vals 29 = _ := hf 29 (by decide)
                      have e30 : vals 30 = _ := hf 30 (by decide)
                      have e31 : vals 31 = _ := hf 31 (by decide)
                      have e32 : vals 32 = _ := hf 32 (by decide)
                      show Oper.wp _ _ (fillG vals 0 (_ :: _ :: _ :: _ :: _ :: _ :: _ :: _ :: _ :: _ :: _ :: _ :: _ :: _ :: _ :: _ :: _ :: _ :: _ :: _ :: _ :: _ :: _ :: _ :: _ :: _ :: _ :: _ :: _ :: _ :: _ :: _ :: _ :: []) _) _ _ _
                      simp only [fillG, Nat.zero_add, Nat.reduceAdd, e0, e1, e2, e3, e4, e5, e6, e7, e8, e9, e10, e11, e12, e13, e14, e15, e16, e17, e18, e19, e20, e21, e22, e23, e24, e25, e26, e27, e28, e29, e30, e31, e32, Act.put, List.setIfInBounds_toArray, List.set_cons_succ, List.set_cons_zero]
                      clear e0 e1 e2 e3 e4 e5 e6 e7 e8 e9 e10 e11 e12 e13 e14 e15 e16 e17 e18 e19 e20 e21 e22 e23 e24 e25 e26 e27 e28 e29 e30 e31 e32 hf
                      refine wp_last_skip (w' := w_.setCell ⟨k7, 0, none⟩ (.bool true)) (m := Instr.storeAt 4 (.pointer (some ⟨k7, 0, none⟩)) (.bool true)) (by kernel_rfl) (run_store1 (by kernel_rfl) rfl rfl (cells3f hJ.heap).1 (cells3f hJ.heap).2.2.2.1) ?_
                      first | show Exit.then _ _ Exit.normal (Act.put ⟨_, _⟩ none _) _ | show Exit.inBlock _ _ Exit.normal (Act.put ⟨_, _⟩ none _) _ | skip
                      simp only [Act.put]
                      have hJ9 : Heap w0 (w_.setCell ⟨k7, 0, none⟩ (.bool true)) (HP.blk k7 #[.bool (waitN q e (k + 1)), .int .u8 0, .int .u64 0] 37 :: HP.blk k6 #[.int .i64 (n : Nat)] 3 :: HP.blk k4 #[.bool false, .int .u8 0, .int .u64 0] 37 :: HP.blk kQ #[ptr b] 24 :: O b (some ⟨g, o, none⟩) cap bs q L) := by
                        rw [show waitN q e (k + 1) = true from by rw [hupk, hwk]; simp]
                        exact hJ.set 0 (.bool true)
                      generalize w_.setCell ⟨k7, 0, none⟩ (.bool true) = w9 at *
                      clear hJ
                      go_wp2
                      exact ⟨⟨k + 1, by go_num, by omega, hJ9⟩, by simp [intOf]; omega⟩
                  | false =>
                    rw [hwk] at hJ
                    cases hxs : xk.store with
                    | false =>
                      go_wp2
                      refine wp_region_E (fun w_ => Heap w0 w_ (HP.blk k7 #[.bool false, .int .u8 0, .int .u64 0] 37 :: HP.blk k6 #[.int .i64 (n : Nat)] 3 :: HP.blk k4 #[.bool false, .int .u8 0, .int .u64 0] 37 :: HP.blk kQ #[ptr b] 24 :: O b (some ⟨g, o, none⟩) cap bs q L)) (fun _ _ => True) (fun k_ v_ w_ => match k_ with
                          | 0 => v_ = .pointer (some ⟨k7, 0, none⟩)
                          | 1 => v_ = .bool false
                          | 2 => v_ = .bool false
                          | 3 => v_ = .pointer (some ⟨y, 0, none⟩)
                          | 4 => v_ = .pointer (some ⟨y, 0, none⟩)
                          | 5 => v_ = .pointer (some ⟨y, 2, none⟩)
                          | 6 => v_ = .bool false
                          | 7 => v_ = .bool false
                          | 8 => v_ = undef
                          | 9 => v_ = undef
                          | 10 => v_ = undef
                          | 11 => v_ = undef
                          | 12 => v_ = undef
                          | 13 => v_ = .bool false
                          | 14 => v_ = .bool false
                          | 15 => v_ = undef
                          | 16 => v_ = undef
                          | 17 => v_ = undef
                          | 18 => v_ = undef
                          | 19 => v_ = .bool false
                          | 20 => v_ = .bool false
                          | 21 => v_ = undef
                          | 22 => v_ = undef
                          | 23 => v_ = undef
                          | 24 => v_ = undef
                          | 25 => v_ = undef
                          | 26 => v_ = undef
                          | 27 => v_ = undef
                          | 28 => v_ = undef
                          | 29 => v_ = undef
                          | 30 => v_ = .bool false
                          | 31 => v_ = .bool false
                          | _ => v_ = .pointer (some ⟨k7, 0, none⟩)) fol (by kernel_rfl) ?_ ?_ (n := 33) rfl rfl rfl (by kernel_rfl) ?_ ?_
                      · exact hJ.drew
                      · intro k_ v_ w_ w2_ h1 hg
                        split at h1 <;> exact h1
                      · intro vals
                        show wpG _ _ _ _ _ _ 0 (_ :: _) _
                        refine wpG_cons (gval (.pointer (some ⟨k7, 0, none⟩)) (fun _ => trivial) fun w_ hJ hd => ?_) ?_
                        · exact ⟨by kernel_rfl, by kernel_rfl, rfl⟩
                        refine wpG_cons (gop (Instr.loadAt 4 (.pointer (some ⟨k7, 0, none⟩))) (.bool false) (fun _ => trivial) fun w_ hJ hd => ?_) ?_
                        · have e0 : vals 0 = _ := hd 0 (by decide) (by kernel_rfl)
                          rw [e0]
                          exact ⟨by kernel_rfl, by kernel_rfl, run_load1 (by kernel_rfl) ((cells3f hJ.heap).1), rfl⟩
                        refine wpG_cons (gval (.bool false) (fun _ => trivial) fun w_ hJ hd => ?_) ?_
                        · have e1 : vals 1 = _ := hd 1 (by decide) (by kernel_rfl)
                          rw [e1]
                          exact ⟨by kernel_rfl, by kernel_rfl, rfl⟩
                        refine wpG_cons (gval (.pointer (some ⟨y, 0, none⟩)) (fun _ => trivial) fun w_ hJ hd => ?_) ?_
                        · have e2 : vals 2 = _ := hd 2 (by decide) (by kernel_rfl)
                          rw [e2]
                          exact ⟨by kernel_rfl, by kernel_rfl, rfl⟩
                        refine wpG_cons (gval (.pointer (some ⟨y, 0, none⟩)) (fun _ => trivial) fun w_ hJ hd => ?_) ?_
                        · have e2 : vals 2 = _ := hd 2 (by decide) (by kernel_rfl)
                          have e3 : vals 3 = _ := hd 3 (by decide) (by kernel_rfl)
                          rw [e2, e3]
                          exact ⟨by kernel_rfl, by kernel_rfl, rfl⟩
                        refine wpG_cons (gval (.pointer (some ⟨y, 2, none⟩)) (fun _ => trivial) fun w_ hJ hd => ?_) ?_
                        · have e2 : vals 2 = _ := hd 2 (by decide) (by kernel_rfl)
                          have e4 : vals 4 = _ := hd 4 (by decide) (by kernel_rfl)
                          rw [e2, e4]
                          exact ⟨by kernel_rfl, by kernel_rfl, rfl⟩
                        refine wpG_cons (gop (Instr.loadAt 4 (.pointer (some ⟨y, 2, none⟩))) (.bool false) (fun _ => trivial) fun w_ hJ hd => ?_) ?_
                        · have e2 : vals 2 = _ := hd 2 (by decide) (by kernel_rfl)
                          have e5 : vals 5 = _ := hd 5 (by decide) (by kernel_rfl)
                          rw [e2, e5]
                          exact ⟨by kernel_rfl, by kernel_rfl, run_load1 (by kernel_rfl) (by rw [← hxs]; exact Y2 _ w_ hJ), rfl⟩
                        refine wpG_cons (gval (.bool false) (fun _ => trivial) fun w_ hJ hd => ?_) ?_
                        · have e2 : vals 2 = _ := hd 2 (by decide) (by kernel_rfl)
                          have e6 : vals 6 = _ := hd 6 (by decide) (by kernel_rfl)
                          rw [e2, e6]
                          exact ⟨by kernel_rfl, by kernel_rfl, rfl⟩
                        refine wpG_cons (gskip fun w_ hJ hd => ?_) ?_
                        · have e7 : vals 7 = _ := hd 7 (by decide) (by kernel_rfl)
                          rw [e7]
                          exact ⟨by kernel_rfl, rfl⟩
                        refine wpG_cons (gskip fun w_ hJ hd => ?_) ?_
                        · have e7 : vals 7 = _ := hd 7 (by decide) (by kernel_rfl)
                          rw [e7]
                          exact ⟨by kernel_rfl, rfl⟩
                        refine wpG_cons (gskip fun w_ hJ hd => ?_) ?_
                        · have e7 : vals 7 = _ := hd 7 (by decide) (by kernel_rfl)
                          rw [e7]
                          exact ⟨by kernel_rfl, rfl⟩
                        refine wpG_cons (gskip fun w_ hJ hd => ?_) ?_
                        · have e7 : vals 7 = _ := hd 7 (by decide) (by kernel_rfl)
                          rw [e7]
                          exact ⟨by kernel_rfl, rfl⟩
                        refine wpG_cons (gskip fun w_ hJ hd => ?_) ?_
                        · have e7 : vals 7 = _ := hd 7 (by decide) (by kernel_rfl)
                          rw [e7]
                          exact ⟨by kernel_rfl, rfl⟩
                        refine wpG_cons (gval (.bool false) (fun _ => trivial) fun w_ hJ hd => ?_) ?_
                        · have e2 : vals 2 = _ := hd 2 (by decide) (by kernel_rfl)
                          have e7 : vals 7 = _ := hd 7 (by decide) (by kernel_rfl)
                          have e12 : vals 12 = _ := hd 12 (by decide) (by kernel_rfl)
                          rw [e2, e7, e12]
                          exact ⟨by kernel_rfl, by kernel_rfl, rfl⟩
                        refine wpG_cons (gval (.bool false) (fun _ => trivial) fun w_ hJ hd => ?_) ?_
                        · have e2 : vals 2 = _ := hd 2 (by decide) (by kernel_rfl)
                          have e13 : vals 13 = _ := hd 13 (by decide) (by kernel_rfl)
                          rw [e2, e13]
                          exact ⟨by kernel_rfl, by kernel_rfl, rfl⟩
                        refine wpG_cons (gskip fun w_ hJ hd => ?_) ?_
                        · have e14 : vals 14 = _ := hd 14 (by decide) (by kernel_rfl)
                          rw [e14]
                          exact ⟨by kernel_rfl, rfl⟩
                        refine wpG_cons (gskip fun w_ hJ hd => ?_) ?_
                        · have e14 : vals 14 = _ := hd 14 (by decide) (by kernel_rfl)
                          rw [e14]
                          exact ⟨by kernel_rfl, rfl⟩
                        refine wpG_cons (gskip fun w_ hJ hd => ?_) ?_
                        · have e14 : vals 14 = _ := hd 14 (by decide) (by kernel_rfl)
                          rw [e14]
                          exact ⟨by kernel_rfl, rfl⟩
                        refine wpG_cons (gskip fun w_ hJ hd => ?_) ?_
                        · have e14 : vals 14 = _ := hd 14 (by decide) (by kernel_rfl)
                          rw [e14]
                          exact ⟨by kernel_rfl, rfl⟩
                        refine wpG_cons (gval (.bool false) (fun _ => trivial) fun w_ hJ hd => ?_) ?_
                        · have e2 : vals 2 = _ := hd 2 (by decide) (by kernel_rfl)
                          have e14 : vals 14 = _ := hd 14 (by decide) (by kernel_rfl)
                          have e18 : vals 18 = _ := hd 18 (by decide) (by kernel_rfl)
                          rw [e2, e14, e18]
                          exact ⟨by kernel_rfl, by kernel_rfl, rfl⟩
                        refine wpG_cons (gval (.bool false) (fun _ => trivial) fun w_ hJ hd => ?_) ?_
                        · have e2 : vals 2 = _ := hd 2 (by decide) (by kernel_rfl)
                          have e19 : vals 19 = _ := hd 19 (by decide) (by kernel_rfl)
                          rw [e2, e19]
                          exact ⟨by kernel_rfl, by kernel_rfl, rfl⟩
                        refine wpG_cons (gskip fun w_ hJ hd => ?_) ?_
                        · have e20 : vals 20 = _ := hd 20 (by decide) (by kernel_rfl)
                          rw [e20]
                          exact ⟨by kernel_rfl, rfl⟩
                        refine wpG_cons (gskip fun w_ hJ hd => ?_) ?_
                        · have e20 : vals 20 = _ := hd 20 (by decide) (by kernel_rfl)
                          rw [e20]
                          exact ⟨by kernel_rfl, rfl⟩
                        refine wpG_cons (gskip fun w_ hJ hd => ?_) ?_
                        · have e20 : vals 20 = _ := hd 20 (by decide) (by kernel_rfl)
                          rw [e20]
                          exact ⟨by kernel_rfl, rfl⟩
                        refine wpG_cons (gskip fun w_ hJ hd => ?_) ?_
                        · have e20 : vals 20 = _ := hd 20 (by decide) (by kernel_rfl)
                          rw [e20]
                          exact ⟨by kernel_rfl, rfl⟩
                        refine wpG_cons (gskip fun w_ hJ hd => ?_) ?_
                        · have e20 : vals 20 = _ := hd 20 (by decide) (by kernel_rfl)
                          rw [e20]
                          exact ⟨by kernel_rfl, rfl⟩
                        refine wpG_cons (gskip fun w_ hJ hd => ?_) ?_
                        · have e20 : vals 20 = _ := hd 20 (by decide) (by kernel_rfl)
                          rw [e20]
                          exact ⟨by kernel_rfl, rfl⟩
                        refine wpG_cons (gskip fun w_ hJ hd => ?_) ?_
                        · have e20 : vals 20 = _ := hd 20 (by decide) (by kernel_rfl)
                          rw [e20]
                          exact ⟨by kernel_rfl, rfl⟩
                        refine wpG_cons (gskip fun w_ hJ hd => ?_) ?_
                        · have e20 : vals 20 = _ := hd 20 (by decide) (by kernel_rfl)
                          rw [e20]
                          exact ⟨by kernel_rfl, rfl⟩
                        refine wpG_cons (gskip fun w_ hJ hd => ?_) ?_
                        · have e20 : vals 20 = _ := hd 20 (by decide) (by kernel_rfl)
                          rw [e20]
                          exact ⟨by kernel_rfl, rfl⟩
                        refine wpG_cons (gval (.bool false) (fun _ => trivial) fun w_ hJ hd => ?_) ?_
                        · have e2 : vals 2 = _ := hd 2 (by decide) (by kernel_rfl)
                          have e20 : vals 20 = _ := hd 20 (by decide) (by kernel_rfl)
                          have e29 : vals 29 = _ := hd 29 (by decide) (by kernel_rfl)
                          rw [e2, e20, e29]
                          exact ⟨by kernel_rfl, by kernel_rfl, rfl⟩
                        refine wpG_cons (gval (.bool false) (fun _ => trivial) fun w_ hJ hd => ?_) ?_
                        · have e2 : vals 2 = _ := hd 2 (by decide) (by kernel_rfl)
                          have e30 : vals 30 = _ := hd 30 (by decide) (by kernel_rfl)
                          rw [e2, e30]
                          exact ⟨by kernel_rfl, by kernel_rfl, rfl⟩
                        refine wpG_cons (gval (.pointer (some ⟨k7, 0, none⟩)) (fun _ => trivial) fun w_ hJ hd => ?_) wpG_nil
                        · exact ⟨by kernel_rfl, by kernel_rfl, rfl⟩
                      · intro vals w_ hJ hf
                        have e0 : vals 0 = _ := hf 0 (by decide)
                        have e1 : vals 1 = _ := hf 1 (by decide)
                        have e2 : vals 2 = _ := hf 2 (by decide)
                        have e3 : vals 3 = _ := hf 3 (by decide)
                        have e4 : vals 4 = _ := hf 4 (by decide)
                        have e5 : vals 5 = _ := hf 5 (by decide)
                        have e6 : vals 6 = _ := hf 6 (by decide)
                        have e7 : vals 7 = _ := hf 7 (by decide)
                        have e8 : vals 8 = _ := hf 8 (by decide)
                        have e9 : vals 9 = _ := hf 9 (by decide)
                        have e10 : vals 10 = _ := hf 10 (by decide)
                        have e11 : vals 11 = _ := hf 11 (by decide)
                        have e12 : vals 12 = _ := hf 12 (by decide)
                        have e13 : vals 13 = _ := hf 13 (by decide)
                        have e14 : vals 14 = _ := hf 14 (by decide)
                        have e15 : vals 15 = _ := hf 15 (by decide)
                        have e16 : vals 16 = _ := hf 16 (by decide)
                        have e17 : vals 17 = _ := hf 17 (by decide)
                        have e18 : vals 18 = _ := hf 18 (by decide)
                        have e19 : vals 19 = _ := hf 19 (by decide)
                        have e20 : vals 20 = _ := hf 20 (by decide)
                        have e21 : vals 21 = _ := hf 21 (by decide)
                        have e22 : vals 22 = _ := hf 22 (by decide)
                        have e23 : vals 23 = _ := hf 23 (by decide)
                        have e24 : vals 24 = _ := hf 24 (by decide)
                        have e25 : vals 25 = _ := hf 25 (by decide)
                        have e26 : vals 26 = _ := hf 26 (by decide)
                        have e27 : vals 27 = _ := hf 27 (by decide)
                        have e28 : vals 28 = _ := hf 28 (by decide)
                        have e29 : vals 29 = _ := hf 29 (by decide)
                        have e30 : vals 30 = _ := hf 30 (by decide)
                        have e31 : vals 31 = _ := hf 31 (by decide)
                        have e32 : vals 32 = _ := hf 32 (by decide)
                        show Oper.wp _ _ (fillG vals 0 (_ :: _ :: _ :: _ :: _ :: _ :: _ :: _ :: _ :: _ :: _ :: _ :: _ :: _ :: _ :: _ :: _ :: _ :: _ :: _ :: _ :: _ :: _ :: _ :: _ :: _ :: _ :: _ :: _ :: _ :: _ :: _ :: _ :: []) _) _ _ _
                        simp only [fillG, Nat.zero_add, Nat.reduceAdd, e0, e1, e2, e3, e4, e5, e6, e7, e8, e9, e10, e11, e12, e13, e14, e15, e16, e17, e18, e19, e20, e21, e22, e23, e24, e25, e26, e27, e28, e29, e30, e31, e32, Act.put, List.setIfInBounds_toArray, List.set_cons_succ, List.set_cons_zero]
                        clear e0 e1 e2 e3 e4 e5 e6 e7 e8 e9 e10 e11 e12 e13 e14 e15 e16 e17 e18 e19 e20 e21 e22 e23 e24 e25 e26 e27 e28 e29 e30 e31 e32 hf
                        refine wp_last_skip (w' := w_.setCell ⟨k7, 0, none⟩ (.bool false)) (m := Instr.storeAt 4 (.pointer (some ⟨k7, 0, none⟩)) (.bool false)) (by kernel_rfl) (run_store1 (by kernel_rfl) rfl rfl (cells3f hJ.heap).1 (cells3f hJ.heap).2.2.2.1) ?_
                        first | show Exit.then _ _ Exit.normal (Act.put ⟨_, _⟩ none _) _ | show Exit.inBlock _ _ Exit.normal (Act.put ⟨_, _⟩ none _) _ | skip
                        simp only [Act.put]
                        have hJ9 : Heap w0 (w_.setCell ⟨k7, 0, none⟩ (.bool false)) (HP.blk k7 #[.bool (waitN q e (k + 1)), .int .u8 0, .int .u64 0] 37 :: HP.blk k6 #[.int .i64 (n : Nat)] 3 :: HP.blk k4 #[.bool false, .int .u8 0, .int .u64 0] 37 :: HP.blk kQ #[ptr b] 24 :: O b (some ⟨g, o, none⟩) cap bs q L) := by
                          rw [show waitN q e (k + 1) = false from by rw [hupk, hwk]; simp [hxs]]
                          exact hJ.set 0 (.bool false)
                        generalize w_.setCell ⟨k7, 0, none⟩ (.bool false) = w9 at *
                        clear hJ
                        go_wp2
                        exact ⟨⟨k + 1, by go_num, by omega, hJ9⟩, by simp [intOf]; omega⟩
                    | true =>
                      cases hxp : xk.placed with
                      | true =>
                        go_wp2
                        refine wp_region_E (fun w_ => Heap w0 w_ (HP.blk k7 #[.bool false, .int .u8 0, .int .u64 0] 37 :: HP.blk k6 #[.int .i64 (n : Nat)] 3 :: HP.blk k4 #[.bool false, .int .u8 0, .int .u64 0] 37 :: HP.blk kQ #[ptr b] 24 :: O b (some ⟨g, o, none⟩) cap bs q L)) (fun _ _ => True) (fun k_ v_ w_ => match k_ with
                            | 0 => v_ = .pointer (some ⟨k7, 0, none⟩)
                            | 1 => v_ = .bool false
                            | 2 => v_ = .bool false
                            | 3 => v_ = .pointer (some ⟨y, 0, none⟩)
                            | 4 => v_ = .pointer (some ⟨y, 0, none⟩)
                            | 5 => v_ = .pointer (some ⟨y, 2, none⟩)
                            | 6 => v_ = .bool true
                            | 7 => v_ = .bool true
                            | 8 => v_ = .pointer (some ⟨y, 0, none⟩)
                            | 9 => v_ = .pointer (some ⟨y, 0, none⟩)
                            | 10 => v_ = .pointer (some ⟨y, 3, none⟩)
                            | 11 => v_ = .bool true
                            | 12 => v_ = .bool false
                            | 13 => v_ = .bool false
                            | 14 => v_ = .bool false
                            | 15 => v_ = undef
                            | 16 => v_ = undef
                            | 17 => v_ = undef
                            | 18 => v_ = undef
                            | 19 => v_ = .bool false
                            | 20 => v_ = .bool false
                            | 21 => v_ = undef
                            | 22 => v_ = undef
                            | 23 => v_ = undef
                            | 24 => v_ = undef
                            | 25 => v_ = undef
                            | 26 => v_ = undef
                            | 27 => v_ = undef
                            | 28 => v_ = undef
                            | 29 => v_ = undef
                            | 30 => v_ = .bool false
                            | 31 => v_ = .bool false
                            | _ => v_ = .pointer (some ⟨k7, 0, none⟩)) fol (by kernel_rfl) ?_ ?_ (n := 33) rfl rfl rfl (by kernel_rfl) ?_ ?_
                        · exact hJ.drew
                        · intro k_ v_ w_ w2_ h1 hg
                          split at h1 <;> exact h1
                        · intro vals
                          show wpG _ _ _ _ _ _ 0 (_ :: _) _
                          refine wpG_cons (gval (.pointer (some ⟨k7, 0, none⟩)) (fun _ => trivial) fun w_ hJ hd => ?_) ?_
                          · exact ⟨by kernel_rfl, by kernel_rfl, rfl⟩
                          refine wpG_cons (gop (Instr.loadAt 4 (.pointer (some ⟨k7, 0, none⟩))) (.bool false) (fun _ => trivial) fun w_ hJ hd => ?_) ?_
                          · have e0 : vals 0 = _ := hd 0 (by decide) (by kernel_rfl)
                            rw [e0]
                            exact ⟨by kernel_rfl, by kernel_rfl, run_load1 (by kernel_rfl) ((cells3f hJ.heap).1), rfl⟩
                          refine wpG_cons (gval (.bool false) (fun _ => trivial) fun w_ hJ hd => ?_) ?_
                          · have e1 : vals 1 = _ := hd 1 (by decide) (by kernel_rfl)
                            rw [e1]
                            exact ⟨by kernel_rfl, by kernel_rfl, rfl⟩
                          refine wpG_cons (gval (.pointer (some ⟨y, 0, none⟩)) (fun _ => trivial) fun w_ hJ hd => ?_) ?_
                          · have e2 : vals 2 = _ := hd 2 (by decide) (by kernel_rfl)
                            rw [e2]
                            exact ⟨by kernel_rfl, by kernel_rfl, rfl⟩
                          refine wpG_cons (gval (.pointer (some ⟨y, 0, none⟩)) (fun _ => trivial) fun w_ hJ hd => ?_) ?_
                          · have e2 : vals 2 = _ := hd 2 (by decide) (by kernel_rfl)
                            have e3 : vals 3 = _ := hd 3 (by decide) (by kernel_rfl)
                            rw [e2, e3]
                            exact ⟨by kernel_rfl, by kernel_rfl, rfl⟩
                          refine wpG_cons (gval (.pointer (some ⟨y, 2, none⟩)) (fun _ => trivial) fun w_ hJ hd => ?_) ?_
                          · have e2 : vals 2 = _ := hd 2 (by decide) (by kernel_rfl)
                            have e4 : vals 4 = _ := hd 4 (by decide) (by kernel_rfl)
                            rw [e2, e4]
                            exact ⟨by kernel_rfl, by kernel_rfl, rfl⟩
                          refine wpG_cons (gop (Instr.loadAt 4 (.pointer (some ⟨y, 2, none⟩))) (.bool true) (fun _ => trivial) fun w_ hJ hd => ?_) ?_
                          · have e2 : vals 2 = _ := hd 2 (by decide) (by kernel_rfl)
                            have e5 : vals 5 = _ := hd 5 (by decide) (by kernel_rfl)
                            rw [e2, e5]
                            exact ⟨by kernel_rfl, by kernel_rfl, run_load1 (by kernel_rfl) (by rw [← hxs]; exact Y2 _ w_ hJ), rfl⟩
                          refine wpG_cons (gval (.bool true) (fun _ => trivial) fun w_ hJ hd => ?_) ?_
                          · have e2 : vals 2 = _ := hd 2 (by decide) (by kernel_rfl)
                            have e6 : vals 6 = _ := hd 6 (by decide) (by kernel_rfl)
                            rw [e2, e6]
                            exact ⟨by kernel_rfl, by kernel_rfl, rfl⟩
                          refine wpG_cons (gval (.pointer (some ⟨y, 0, none⟩)) (fun _ => trivial) fun w_ hJ hd => ?_) ?_
                          · have e7 : vals 7 = _ := hd 7 (by decide) (by kernel_rfl)
                            rw [e7]
                            exact ⟨by kernel_rfl, by kernel_rfl, rfl⟩
                          refine wpG_cons (gval (.pointer (some ⟨y, 0, none⟩)) (fun _ => trivial) fun w_ hJ hd => ?_) ?_
                          · have e7 : vals 7 = _ := hd 7 (by decide) (by kernel_rfl)
                            have e8 : vals 8 = _ := hd 8 (by decide) (by kernel_rfl)
                            rw [e7, e8]
                            exact ⟨by kernel_rfl, by kernel_rfl, rfl⟩
                          refine wpG_cons (gval (.pointer (some ⟨y, 3, none⟩)) (fun _ => trivial) fun w_ hJ hd => ?_) ?_
                          · have e7 : vals 7 = _ := hd 7 (by decide) (by kernel_rfl)
                            have e9 : vals 9 = _ := hd 9 (by decide) (by kernel_rfl)
                            rw [e7, e9]
                            exact ⟨by kernel_rfl, by kernel_rfl, rfl⟩
                          refine wpG_cons (gop (Instr.loadAt 4 (.pointer (some ⟨y, 3, none⟩))) (.bool true) (fun _ => trivial) fun w_ hJ hd => ?_) ?_
                          · have e7 : vals 7 = _ := hd 7 (by decide) (by kernel_rfl)
                            have e10 : vals 10 = _ := hd 10 (by decide) (by kernel_rfl)
                            rw [e7, e10]
                            exact ⟨by kernel_rfl, by kernel_rfl, run_load1 (by kernel_rfl) (by rw [← hxp]; exact Y3 _ w_ hJ), rfl⟩
                          refine wpG_cons (gval (.bool false) (fun _ => trivial) fun w_ hJ hd => ?_) ?_
                          · have e7 : vals 7 = _ := hd 7 (by decide) (by kernel_rfl)
                            have e11 : vals 11 = _ := hd 11 (by decide) (by kernel_rfl)
                            rw [e7, e11]
                            exact ⟨by kernel_rfl, by kernel_rfl, rfl⟩
                          refine wpG_cons (gval (.bool false) (fun _ => trivial) fun w_ hJ hd => ?_) ?_
                          · have e2 : vals 2 = _ := hd 2 (by decide) (by kernel_rfl)
                            have e7 : vals 7 = _ := hd 7 (by decide) (by kernel_rfl)
                            have e12 : vals 12 = _ := hd 12 (by decide) (by kernel_rfl)
                            rw [e2, e7, e12]
                            exact ⟨by kernel_rfl, by kernel_rfl, rfl⟩
                          refine wpG_cons (gval (.bool false) (fun _ => trivial) fun w_ hJ hd => ?_) ?_
                          · have e2 : vals 2 = _ := hd 2 (by decide) (by kernel_rfl)
                            have e13 : vals 13 = _ := hd 13 (by decide) (by kernel_rfl)
                            rw [e2, e13]
                            exact ⟨by kernel_rfl, by kernel_rfl, rfl⟩
                          refine wpG_cons (gskip fun w_ hJ hd => ?_) ?_
                          · have e14 : vals 14 = _ := hd 14 (by decide) (by kernel_rfl)
                            rw [e14]
                            exact ⟨by kernel_rfl, rfl⟩
                          refine wpG_cons (gskip fun w_ hJ hd => ?_) ?_
                          · have e14 : vals 14 = _ := hd 14 (by decide) (by kernel_rfl)
                            rw [e14]
                            exact ⟨by kernel_rfl, rfl⟩
                          refine wpG_cons (gskip fun w_ hJ hd => ?_) ?_
                          · have e14 : vals 14 = _ := hd 14 (by decide) (by kernel_rfl)
                            rw [e14]
                            exact ⟨by kernel_rfl, rfl⟩
                          refine wpG_cons (gskip fun w_ hJ hd => ?_) ?_
                          · have e14 : vals 14 = _ := hd 14 (by decide) (by kernel_rfl)
                            rw [e14]
                            exact ⟨by kernel_rfl, rfl⟩
                          refine wpG_cons (gval (.bool false) (fun _ => trivial) fun w_ hJ hd => ?_) ?_
                          · have e2 : vals 2 = _ := hd 2 (by decide) (by kernel_rfl)
                            have e14 : vals 14 = _ := hd 14 (by decide) (by kernel_rfl)
                            have e18 : vals 18 = _ := hd 18 (by decide) (by kernel_rfl)
                            rw [e2, e14, e18]
                            exact ⟨by kernel_rfl, by kernel_rfl, rfl⟩
                          refine wpG_cons (gval (.bool false) (fun _ => trivial) fun w_ hJ hd => ?_) ?_
                          · have e2 : vals 2 = _ := hd 2 (by decide) (by kernel_rfl)
                            have e19 : vals 19 = _ := hd 19 (by decide) (by kernel_rfl)
                            rw [e2, e19]
                            exact ⟨by kernel_rfl, by kernel_rfl, rfl⟩
                          refine wpG_cons (gskip fun w_ hJ hd => ?_) ?_
                          · have e20 : vals 20 = _ := hd 20 (by decide) (by kernel_rfl)
                            rw [e20]
                            exact ⟨by kernel_rfl, rfl⟩
                          refine wpG_cons (gskip fun w_ hJ hd => ?_) ?_
                          · have e20 : vals 20 = _ := hd 20 (by decide) (by kernel_rfl)
                            rw [e20]
                            exact ⟨by kernel_rfl, rfl⟩
                          refine wpG_cons (gskip fun w_ hJ hd => ?_) ?_
                          · have e20 : vals 20 = _ := hd 20 (by decide) (by kernel_rfl)
                            rw [e20]
                            exact ⟨by kernel_rfl, rfl⟩
                          refine wpG_cons (gskip fun w_ hJ hd => ?_) ?_
                          · have e20 : vals 20 = _ := hd 20 (by decide) (by kernel_rfl)
                            rw [e20]
                            exact ⟨by kernel_rfl, rfl⟩
                          refine wpG_cons (gskip fun w_ hJ hd => ?_) ?_
                          · have e20 : vals 20 = _ := hd 20 (by decide) (by kernel_rfl)
                            rw [e20]
                            exact ⟨by kernel_rfl, rfl⟩
                          refine wpG_cons (gskip fun w_ hJ hd => ?_) ?_
                          · have e20 : vals 20 = _ := hd 20 (by decide) (by kernel_rfl)
                            rw [e20]
                            exact ⟨by kernel_rfl, rfl⟩
                          refine wpG_cons (gskip fun w_ hJ hd => ?_) ?_
                          · have e20 : vals 20 = _ := hd 20 (by decide) (by kernel_rfl)
                            rw [e20]
                            exact ⟨by kernel_rfl, rfl⟩
                          refine wpG_cons (gskip fun w_ hJ hd => ?_) ?_
                          · have e20 : vals 20 = _ := hd 20 (by decide) (by kernel_rfl)
                            rw [e20]
                            exact ⟨by kernel_rfl, rfl⟩
                          refine wpG_cons (gskip fun w_ hJ hd => ?_) ?_
                          · have e20 : vals 20 = _ := hd 20 (by decide) (by kernel_rfl)
                            rw [e20]
                            exact ⟨by kernel_rfl, rfl⟩
                          refine wpG_cons (gval (.bool false) (fun _ => trivial) fun w_ hJ hd => ?_) ?_
                          · have e2 : vals 2 = _ := hd 2 (by decide) (by kernel_rfl)
                            have e20 : vals 20 = _ := hd 20 (by decide) (by kernel_rfl)
                            have e29 : vals 29 = _ := hd 29 (by decide) (by kernel_rfl)
                            rw [e2, e20, e29]
                            exact ⟨by kernel_rfl, by kernel_rfl, rfl⟩
                          refine wpG_cons (gval (.bool false) (fun _ => trivial) fun w_ hJ hd => ?_) ?_
                          · have e2 : vals 2 = _ := hd 2 (by decide) (by kernel_rfl)
                            have e30 : vals 30 = _ := hd 30 (by decide) (by kernel_rfl)
                            rw [e2, e30]
                            exact ⟨by kernel_rfl, by kernel_rfl, rfl⟩
                          refine wpG_cons (gval (.pointer (some ⟨k7, 0, none⟩)) (fun _ => trivial) fun w_ hJ hd => ?_) wpG_nil
                          · exact ⟨by kernel_rfl, by kernel_rfl, rfl⟩
                        · intro vals w_ hJ hf
                          have e0 : vals 0 = _ := hf 0 (by decide)
                          have e1 : vals 1 = _ := hf 1 (by decide)
                          have e2 : vals 2 = _ := hf 2 (by decide)
                          have e3 : vals 3 = _ := hf 3 (by decide)
                          have e4 : vals 4 = _ := hf 4 (by decide)
                          have e5 : vals 5 = _ := hf 5 (by decide)
                          have e6 : vals 6 = _ := hf 6 (by decide)
                          have e7 : vals 7 = _ := hf 7 (by decide)
                          have e8 : vals 8 = _ := hf 8 (by decide)
                          have e9 : vals 9 = _ := hf 9 (by decide)
                          have e10 : vals 10 = _ := hf 10 (by decide)
                          have e11 : vals 11 = _ := hf 11 (by decide)
                          have e12 : vals 12 = _ := hf 12 (by decide)
                          have e13 : vals 13 = _ := hf 13 (by decide)
                          have e14 : vals 14 = _ := hf 14 (by decide)
                          have e15 : vals 15 = _ := hf 15 (by decide)
                          have e16 : vals 16 = _ := hf 16 (by decide)
                          have e17 : vals 17 = _ := hf 17 (by decide)
                          have e18 : vals 18 = _ := hf 18 (by decide)
                          have e19 : vals 19 = _ := hf 19 (by decide)
                          have e20 : vals 20 = _ := hf 20 (by decide)
                          have e21 : vals 21 = _ := hf 21 (by decide)
                          have e22 : vals 22 = _ := hf 22 (by decide)
                          have e23 : vals 23 = _ := hf 23 (by decide)
                          have e24 : vals 24 = _ := hf 24 (by decide)
                          have e25 : vals 25 = _ := hf 25 (by decide)
                          have e26 : vals 26 = _ := hf 26 (by decide)
                          have e27 : vals 27 = _ := hf 27 (by decide)
                          have e28 : vals 28 = _ := hf 28 (by decide)
                          have e29 : vals 29 = _ := hf 29 (by decide)
                          have e30 : vals 30 = _ := hf 30 (by decide)
                          have e31 : vals 31 = _ := hf 31 (by decide)
                          have e32 : vals 32 = _ := hf 32 (by decide)
                          show Oper.wp _ _ (fillG vals 0 (_ :: _ :: _ :: _ :: _ :: _ :: _ :: _ :: _ :: _ :: _ :: _ :: _ :: _ :: _ :: _ :: _ :: _ :: _ :: _ :: _ :: _ :: _ :: _ :: _ :: _ :: _ :: _ :: _ :: _ :: _ :: _ :: _ :: []) _) _ _ _
                          simp only [fillG, Nat.zero_add, Nat.reduceAdd, e0, e1, e2, e3, e4, e5, e6, e7, e8, e9, e10, e11, e12, e13, e14, e15, e16, e17, e18, e19, e20, e21, e22, e23, e24, e25, e26, e27, e28, e29, e30, e31, e32, Act.put, List.setIfInBounds_toArray, List.set_cons_succ, List.set_cons_zero]
                          clear e0 e1 e2 e3 e4 e5 e6 e7 e8 e9 e10 e11 e12 e13 e14 e15 e16 e17 e18 e19 e20 e21 e22 e23 e24 e25 e26 e27 e28 e29 e30 e31 e32 hf
                          refine wp_last_skip (w' := w_.setCell ⟨k7, 0, none⟩ (.bool false)) (m := Instr.storeAt 4 (.pointer (some ⟨k7, 0, none⟩)) (.bool false)) (by kernel_rfl) (run_store1 (by kernel_rfl) rfl rfl (cells3f hJ.heap).1 (cells3f hJ.heap).2.2.2.1) ?_
                          first | show Exit.then _ _ Exit.normal (Act.put ⟨_, _⟩ none _) _ | show Exit.inBlock _ _ Exit.normal (Act.put ⟨_, _⟩ none _) _ | skip
                          simp only [Act.put]
                          have hJ9 : Heap w0 (w_.setCell ⟨k7, 0, none⟩ (.bool false)) (HP.blk k7 #[.bool (waitN q e (k + 1)), .int .u8 0, .int .u64 0] 37 :: HP.blk k6 #[.int .i64 (n : Nat)] 3 :: HP.blk k4 #[.bool false, .int .u8 0, .int .u64 0] 37 :: HP.blk kQ #[ptr b] 24 :: O b (some ⟨g, o, none⟩) cap bs q L) := by
                            rw [show waitN q e (k + 1) = false from by rw [hupk, hwk]; simp [hxs, hxp]]
                            exact hJ.set 0 (.bool false)
                          generalize w_.setCell ⟨k7, 0, none⟩ (.bool false) = w9 at *
                          clear hJ
                          go_wp2
                          exact ⟨⟨k + 1, by go_num, by omega, hJ9⟩, by simp [intOf]; omega⟩
                      | false =>
                        cases hxh : (q.h (rowN e.pc)).2 with
                        | false =>
                          go_wp2
                          refine wp_region_E (fun w_ => Heap w0 w_ (HP.blk k7 #[.bool false, .int .u8 0, .int .u64 0] 37 :: HP.blk k6 #[.int .i64 (n : Nat)] 3 :: HP.blk k4 #[.bool false, .int .u8 0, .int .u64 0] 37 :: HP.blk kQ #[ptr b] 24 :: O b (some ⟨g, o, none⟩) cap bs q L)) (fun _ _ => True) (fun k_ v_ w_ => match k_ with
                              | 0 => v_ = .pointer (some ⟨k7, 0, none⟩)
                              | 1 => v_ = .bool false
                              | 2 => v_ = .bool false
                              | 3 => v_ = .pointer (some ⟨y, 0, none⟩)
                              | 4 => v_ = .pointer (some ⟨y, 0, none⟩)
                              | 5 => v_ = .pointer (some ⟨y, 2, none⟩)
                              | 6 => v_ = .bool true
                              | 7 => v_ = .bool true
                              | 8 => v_ = .pointer (some ⟨y, 0, none⟩)
                              | 9 => v_ = .pointer (some ⟨y, 0, none⟩)
                              | 10 => v_ = .pointer (some ⟨y, 3, none⟩)
                              | 11 => v_ = .bool false
                              | 12 => v_ = .bool true
                              | 13 => v_ = .bool true
                              | 14 => v_ = .bool true
                              | 15 => v_ = .pointer (some ⟨b, 1 + rowN e.pc * 2, none⟩)
                              | 16 => v_ = .pointer (some ⟨b, 1 + rowN e.pc * 2, none⟩)
                              | 17 => v_ = .pointer (some ⟨b, 1 + rowN e.pc * 2 + 1, none⟩)
                              | 18 => v_ = .bool false
                              | 19 => v_ = .bool false
                              | 20 => v_ = .bool false
                              | 21 => v_ = undef
                              | 22 => v_ = undef
                              | 23 => v_ = undef
                              | 24 => v_ = undef
                              | 25 => v_ = undef
                              | 26 => v_ = undef
                              | 27 => v_ = undef
                              | 28 => v_ = undef
                              | 29 => v_ = undef
                              | 30 => v_ = .bool false
                              | 31 => v_ = .bool false
                              | _ => v_ = .pointer (some ⟨k7, 0, none⟩)) fol (by kernel_rfl) ?_ ?_ (n := 33) rfl rfl rfl (by kernel_rfl) ?_ ?_
                          · exact hJ.drew
                          · intro k_ v_ w_ w2_ h1 hg
                            split at h1 <;> exact h1
                          · intro vals
                            show wpG _ _ _ _ _ _ 0 (_ :: _) _
                            refine wpG_cons (gval (.pointer (some ⟨k7, 0, none⟩)) (fun _ => trivial) fun w_ hJ hd => ?_) ?_
                            · exact ⟨by kernel_rfl, by kernel_rfl, rfl⟩
                            refine wpG_cons (gop (Instr.loadAt 4 (.pointer (some ⟨k7, 0, none⟩))) (.bool false) (fun _ => trivial) fun w_ hJ hd => ?_) ?_
                            · have e0 : vals 0 = _ := hd 0 (by decide) (by kernel_rfl)
                              rw [e0]
                              exact ⟨by kernel_rfl, by kernel_rfl, run_load1 (by kernel_rfl) ((cells3f hJ.heap).1), rfl⟩
                            refine wpG_cons (gval (.bool false) (fun _ => trivial) fun w_ hJ hd => ?_) ?_
                            · have e1 : vals 1 = _ := hd 1 (by decide) (by kernel_rfl)
                              rw [e1]
                              exact ⟨by kernel_rfl, by kernel_rfl, rfl⟩
                            refine wpG_cons (gval (.pointer (some ⟨y, 0, none⟩)) (fun _ => trivial) fun w_ hJ hd => ?_) ?_
                            · have e2 : vals 2 = _ := hd 2 (by decide) (by kernel_rfl)
                              rw [e2]
                              exact ⟨by kernel_rfl, by kernel_rfl, rfl⟩
                            refine wpG_cons (gval (.pointer (some ⟨y, 0, none⟩)) (fun _ => trivial) fun w_ hJ hd => ?_) ?_
                            · have e2 : vals 2 = _ := hd 2 (by decide) (by kernel_rfl)
                              have e3 : vals 3 = _ := hd 3 (by decide) (by kernel_rfl)
                              rw [e2, e3]
                              exact ⟨by kernel_rfl, by kernel_rfl, rfl⟩
                            refine wpG_cons (gval (.pointer (some ⟨y, 2, none⟩)) (fun _ => trivial) fun w_ hJ hd => ?_) ?_
                            · have e2 : vals 2 = _ := hd 2 (by decide) (by kernel_rfl)
                              have e4 : vals 4 = _ := hd 4 (by decide) (by kernel_rfl)
                              rw [e2, e4]
                              exact ⟨by kernel_rfl, by kernel_rfl, rfl⟩
                            refine wpG_cons (gop (Instr.loadAt 4 (.pointer (some ⟨y, 2, none⟩))) (.bool true) (fun _ => trivial) fun w_ hJ hd => ?_) ?_
                            · have e2 : vals 2 = _ := hd 2 (by decide) (by kernel_rfl)
                              have e5 : vals 5 = _ := hd 5 (by decide) (by kernel_rfl)
                              rw [e2, e5]
                              exact ⟨by kernel_rfl, by kernel_rfl, run_load1 (by kernel_rfl) (by rw [← hxs]; exact Y2 _ w_ hJ), rfl⟩
                            refine wpG_cons (gval (.bool true) (fun _ => trivial) fun w_ hJ hd => ?_) ?_
                            · have e2 : vals 2 = _ := hd 2 (by decide) (by kernel_rfl)
                              have e6 : vals 6 = _ := hd 6 (by decide) (by kernel_rfl)
                              rw [e2, e6]
                              exact ⟨by kernel_rfl, by kernel_rfl, rfl⟩
                            refine wpG_cons (gval (.pointer (some ⟨y, 0, none⟩)) (fun _ => trivial) fun w_ hJ hd => ?_) ?_
                            · have e7 : vals 7 = _ := hd 7 (by decide) (by kernel_rfl)
                              rw [e7]
                              exact ⟨by kernel_rfl, by kernel_rfl, rfl⟩
                            refine wpG_cons (gval (.pointer (some ⟨y, 0, none⟩)) (fun _ => trivial) fun w_ hJ hd => ?_) ?_
                            · have e7 : vals 7 = _ := hd 7 (by decide) (by kernel_rfl)
                              have e8 : vals 8 = _ := hd 8 (by decide) (by kernel_rfl)
                              rw [e7, e8]
                              exact ⟨by kernel_rfl, by kernel_rfl, rfl⟩
                            refine wpG_cons (gval (.pointer (some ⟨y, 3, none⟩)) (fun _ => trivial) fun w_ hJ hd => ?_) ?_
                            · have e7 : vals 7 = _ := hd 7 (by decide) (by kernel_rfl)
                              have e9 : vals 9 = _ := hd 9 (by decide) (by kernel_rfl)
                              rw [e7, e9]
                              exact ⟨by kernel_rfl, by kernel_rfl, rfl⟩
                            refine wpG_cons (gop (Instr.loadAt 4 (.pointer (some ⟨y, 3, none⟩))) (.bool false) (fun _ => trivial) fun w_ hJ hd => ?_) ?_
                            · have e7 : vals 7 = _ := hd 7 (by decide) (by kernel_rfl)
                              have e10 : vals 10 = _ := hd 10 (by decide) (by kernel_rfl)
                              rw [e7, e10]
                              exact ⟨by kernel_rfl, by kernel_rfl, run_load1 (by kernel_rfl) (by rw [← hxp]; exact Y3 _ w_ hJ), rfl⟩
                            refine wpG_cons (gval (.bool true) (fun _ => trivial) fun w_ hJ hd => ?_) ?_
                            · have e7 : vals 7 = _ := hd 7 (by decide) (by kernel_rfl)
                              have e11 : vals 11 = _ := hd 11 (by decide) (by kernel_rfl)
                              rw [e7, e11]
                              exact ⟨by kernel_rfl, by kernel_rfl, rfl⟩
                            refine wpG_cons (gval (.bool true) (fun _ => trivial) fun w_ hJ hd => ?_) ?_
                            · have e2 : vals 2 = _ := hd 2 (by decide) (by kernel_rfl)
                              have e7 : vals 7 = _ := hd 7 (by decide) (by kernel_rfl)
                              have e12 : vals 12 = _ := hd 12 (by decide) (by kernel_rfl)
                              rw [e2, e7, e12]
                              exact ⟨by kernel_rfl, by kernel_rfl, rfl⟩
                            refine wpG_cons (gval (.bool true) (fun _ => trivial) fun w_ hJ hd => ?_) ?_
                            · have e2 : vals 2 = _ := hd 2 (by decide) (by kernel_rfl)
                              have e13 : vals 13 = _ := hd 13 (by decide) (by kernel_rfl)
                              rw [e2, e13]
                              exact ⟨by kernel_rfl, by kernel_rfl, rfl⟩
                            refine wpG_cons (gval (.pointer (some ⟨b, 1 + rowN e.pc * 2, none⟩)) (fun _ => trivial) fun w_ hJ hd => ?_) ?_
                            · have e14 : vals 14 = _ := hd 14 (by decide) (by kernel_rfl)
                              rw [e14]
                              exact ⟨by kernel_rfl, by kernel_rfl, rfl⟩
                            refine wpG_cons (gval (.pointer (some ⟨b, 1 + rowN e.pc * 2, none⟩)) (fun _ => trivial) fun w_ hJ hd => ?_) ?_
                            · have e14 : vals 14 = _ := hd 14 (by decide) (by kernel_rfl)
                              have e15 : vals 15 = _ := hd 15 (by decide) (by kernel_rfl)
                              rw [e14, e15]
                              exact ⟨by kernel_rfl, by kernel_rfl, rfl⟩
                            refine wpG_cons (gval (.pointer (some ⟨b, 1 + rowN e.pc * 2 + 1, none⟩)) (fun _ => trivial) fun w_ hJ hd => ?_) ?_
                            · have e14 : vals 14 = _ := hd 14 (by decide) (by kernel_rfl)
                              have e16 : vals 16 = _ := hd 16 (by decide) (by kernel_rfl)
                              rw [e14, e16]
                              exact ⟨by kernel_rfl, by kernel_rfl, rfl⟩
                            refine wpG_cons (gop (Instr.loadAt 4 (.pointer (some ⟨b, 1 + rowN e.pc * 2 + 1, none⟩))) (.bool false) (fun _ => trivial) fun w_ hJ hd => ?_) ?_
                            · have e14 : vals 14 = _ := hd 14 (by decide) (by kernel_rfl)
                              have e17 : vals 17 = _ := hd 17 (by decide) (by kernel_rfl)
                              rw [e14, e17]
                              exact ⟨by kernel_rfl, by kernel_rfl, run_load1 (by kernel_rfl) (by rw [← hxh]; exact Y4 _ w_ hJ), rfl⟩
                            refine wpG_cons (gval (.bool false) (fun _ => trivial) fun w_ hJ hd => ?_) ?_
                            · have e2 : vals 2 = _ := hd 2 (by decide) (by kernel_rfl)
                              have e14 : vals 14 = _ := hd 14 (by decide) (by kernel_rfl)
                              have e18 : vals 18 = _ := hd 18 (by decide) (by kernel_rfl)
                              rw [e2, e14, e18]
                              exact ⟨by kernel_rfl, by kernel_rfl, rfl⟩
                            refine wpG_cons (gval (.bool false) (fun _ => trivial) fun w_ hJ hd => ?_) ?_
                            · have e2 : vals 2 = _ := hd 2 (by decide) (by kernel_rfl)
                              have e19 : vals 19 = _ := hd 19 (by decide) (by kernel_rfl)
                              rw [e2, e19]
                              exact ⟨by kernel_rfl, by kernel_rfl, rfl⟩
                            refine wpG_cons (gskip fun w_ hJ hd => ?_) ?_
                            · have e20 : vals 20 = _ := hd 20 (by decide) (by kernel_rfl)
                              rw [e20]
                              exact ⟨by kernel_rfl, rfl⟩
                            refine wpG_cons (gskip fun w_ hJ hd => ?_) ?_
                            · have e20 : vals 20 = _ := hd 20 (by decide) (by kernel_rfl)
                              rw [e20]
                              exact ⟨by kernel_rfl, rfl⟩
                            refine wpG_cons (gskip fun w_ hJ hd => ?_) ?_
                            · have e20 : vals 20 = _ := hd 20 (by decide) (by kernel_rfl)
                              rw [e20]
                              exact ⟨by kernel_rfl, rfl⟩
                            refine wpG_cons (gskip fun w_ hJ hd => ?_) ?_
                            · have e20 : vals 20 = _ := hd 20 (by decide) (by kernel_rfl)
                              rw [e20]
                              exact ⟨by kernel_rfl, rfl⟩
                            refine wpG_cons (gskip fun w_ hJ hd => ?_) ?_
                            · have e20 : vals 20 = _ := hd 20 (by decide) (by kernel_rfl)
                              rw [e20]
                              exact ⟨by kernel_rfl, rfl⟩
                            refine wpG_cons (gskip fun w_ hJ hd => ?_) ?_
                            · have e20 : vals 20 = _ := hd 20 (by decide) (by kernel_rfl)
                              rw [e20]
                              exact ⟨by kernel_rfl, rfl⟩
                            refine wpG_cons (gskip fun w_ hJ hd => ?_) ?_
                            · have e20 : vals 20 = _ := hd 20 (by decide) (by kernel_rfl)
                              rw [e20]
                              exact ⟨by kernel_rfl, rfl⟩
                            refine wpG_cons (gskip fun w_ hJ hd => ?_) ?_
                            · have e20 : vals 20 = _ := hd 20 (by decide) (by kernel_rfl)
                              rw [e20]
                              exact ⟨by kernel_rfl, rfl⟩
                            refine wpG_cons (gskip fun w_ hJ hd => ?_) ?_
                            · have e20 : vals 20 = _ := hd 20 (by decide) (by kernel_rfl)
                              rw [e20]
                              exact ⟨by kernel_rfl, rfl⟩
                            refine wpG_cons (gval (.bool false) (fun _ => trivial) fun w_ hJ hd => ?_) ?_
                            · have e2 : vals 2 = _ := hd 2 (by decide) (by kernel_rfl)
                              have e20 : vals 20 = _ := hd 20 (by decide) (by kernel_rfl)
                              have e29 : vals 29 = _ := hd 29 (by decide) (by kernel_rfl)
                              rw [e2, e20, e29]
                              exact ⟨by kernel_rfl, by kernel_rfl, rfl⟩
                            refine wpG_cons (gval (.bool false) (fun _ => trivial) fun w_ hJ hd => ?_) ?_
                            · have e2 : vals 2 = _ := hd 2 (by decide) (by kernel_rfl)
                              have e30 : vals 30 = _ := hd 30 (by decide) (by kernel_rfl)
                              rw [e2, e30]
                              exact ⟨by kernel_rfl, by kernel_rfl, rfl⟩
                            refine wpG_cons (gval (.pointer (some ⟨k7, 0, none⟩)) (fun _ => trivial) fun w_ hJ hd => ?_) wpG_nil
                            · exact ⟨by kernel_rfl, by kernel_rfl, rfl⟩
                          · intro vals w_ hJ hf
                            have e0 : vals 0 = _ := hf 0 (by decide)
                            have e1 : vals 1 = _ := hf 1 (by decide)
                            have e2 : vals 2 = _ := hf 2 (by decide)
                            have e3 : vals 3 = _ := hf 3 (by decide)
                            have e4 : vals 4 = _ := hf 4 (by decide)
                            have e5 : vals 5 = _ := hf 5 (by decide)
                            have e6 : vals 6 = _ := hf 6 (by decide)
                            have e7 : vals 7 = _ := hf 7 (by decide)
                            have e8 : vals 8 = _ := hf 8 (by decide)
                            have e9 : vals 9 = _ := hf 9 (by decide)
                            have e10 : vals 10 = _ := hf 10 (by decide)
                            have e11 : vals 11 = _ := hf 11 (by decide)
                            have e12 : vals 12 = _ := hf 12 (by decide)
                            have e13 : vals 13 = _ := hf 13 (by decide)
                            have e14 : vals 14 = _ := hf 14 (by decide)
                            have e15 : vals 15 = _ := hf 15 (by decide)
                            have e16 : vals 16 = _ := hf 16 (by decide)
                            have e17 : vals 17 = _ := hf 17 (by decide)
                            have e18 : vals 18 = _ := hf 18 (by decide)
                            have e19 : vals 19 = _ := hf 19 (by decide)
                            have e20 : vals 20 = _ := hf 20 (by decide)
                            have e21 : vals 21 = _ := hf 21 (by decide)
                            have e22 : vals 22 = _ := hf 22 (by decide)
                            have e23 : vals 23 = _ := hf 23 (by decide)
                            have e24 : vals 24 = _ := hf 24 (by decide)
                            have e25 : vals 25 = _ := hf 25 (by decide)
                            have e26 : vals 26 = _ := hf 26 (by decide)
                            have e27 : vals 27 = _ := hf 27 (by decide)
                            have e28 : vals 28 = _ := hf 28 (by decide)
                            have e29 : vals 29 = _ := hf 29 (by decide)
                            have e30 : vals 30 = _ := hf 30 (by decide)
                            have e31 : vals 31 = _ := hf 31 (by decide)
                            have e32 : vals 32 = _ := hf 32 (by decide)
                            show Oper.wp _ _ (fillG vals 0 (_ :: _ :: _ :: _ :: _ :: _ :: _ :: _ :: _ :: _ :: _ :: _ :: _ :: _ :: _ :: _ :: _ :: _ :: _ :: _ :: _ :: _ :: _ :: _ :: _ :: _ :: _ :: _ :: _ :: _ :: _ :: _ :: _ :: []) _) _ _ _
                            simp only [fillG, Nat.zero_add, Nat.reduceAdd, e0, e1, e2, e3, e4, e5, e6, e7, e8, e9, e10, e11, e12, e13, e14, e15, e16, e17, e18, e19, e20, e21, e22, e23, e24, e25, e26, e27, e28, e29, e30, e31, e32, Act.put, List.setIfInBounds_toArray, List.set_cons_succ, List.set_cons_zero]
                            clear e0 e1 e2 e3 e4 e5 e6 e7 e8 e9 e10 e11 e12 e13 e14 e15 e16 e17 e18 e19 e20 e21 e22 e23 e24 e25 e26 e27 e28 e29 e30 e31 e32 hf
                            refine wp_last_skip (w' := w_.setCell ⟨k7, 0, none⟩ (.bool false)) (m := Instr.storeAt 4 (.pointer (some ⟨k7, 0, none⟩)) (.bool false)) (by kernel_rfl) (run_store1 (by kernel_rfl) rfl rfl (cells3f hJ.heap).1 (cells3f hJ.heap).2.2.2.1) ?_
                            first | show Exit.then _ _ Exit.normal (Act.put ⟨_, _⟩ none _) _ | show Exit.inBlock _ _ Exit.normal (Act.put ⟨_, _⟩ none _) _ | skip
                            simp only [Act.put]
                            have hJ9 : Heap w0 (w_.setCell ⟨k7, 0, none⟩ (.bool false)) (HP.blk k7 #[.bool (waitN q e (k + 1)), .int .u8 0, .int .u64 0] 37 :: HP.blk k6 #[.int .i64 (n : Nat)] 3 :: HP.blk k4 #[.bool false, .int .u8 0, .int .u64 0] 37 :: HP.blk kQ #[ptr b] 24 :: O b (some ⟨g, o, none⟩) cap bs q L) := by
                              rw [show waitN q e (k + 1) = false from by rw [hupk, hwk]; simp [hxs, hxp, hxh]]
                              exact hJ.set 0 (.bool false)
                            generalize w_.setCell ⟨k7, 0, none⟩ (.bool false) = w9 at *
                            clear hJ
                            go_wp2
                            exact ⟨⟨k + 1, by go_num, by omega, hJ9⟩, by simp [intOf]; omega⟩
                        | true =>
                          go_wp2
                          refine wp_region_E (fun w_ => Heap w0 w_ (HP.blk k7 #[.bool false, .int .u8 0, .int .u64 0] 37 :: HP.blk k6 #[.int .i64 (n : Nat)] 3 :: HP.blk k4 #[.bool false, .int .u8 0, .int .u64 0] 37 :: HP.blk kQ #[ptr b] 24 :: O b (some ⟨g, o, none⟩) cap bs q L)) (fun _ _ => True) (fun k_ v_ w_ => match k_ with
                              | 0 => v_ = .pointer (some ⟨k7, 0, none⟩)
                              | 1 => v_ = .bool false
                              | 2 => v_ = .bool false
                              | 3 => v_ = .pointer (some ⟨y, 0, none⟩)
                              | 4 => v_ = .pointer (some ⟨y, 0, none⟩)
                              | 5 => v_ = .pointer (some ⟨y, 2, none⟩)
                              | 6 => v_ = .bool true
                              | 7 => v_ = .bool true
                              | 8 => v_ = .pointer (some ⟨y, 0, none⟩)
                              | 9 => v_ = .pointer (some ⟨y, 0, none⟩)
                              | 10 => v_ = .pointer (some ⟨y, 3, none⟩)
                              | 11 => v_ = .bool false
                              | 12 => v_ = .bool true
                              | 13 => v_ = .bool true
                              | 14 => v_ = .bool true
                              | 15 => v_ = .pointer (some ⟨b, 1 + rowN e.pc * 2, none⟩)
                              | 16 => v_ = .pointer (some ⟨b, 1 + rowN e.pc * 2, none⟩)
                              | 17 => v_ = .pointer (some ⟨b, 1 + rowN e.pc * 2 + 1, none⟩)
                              | 18 => v_ = .bool true
                              | 19 => v_ = .bool true
                              | 20 => v_ = .bool true
                              | 21 => v_ = .pointer (some ⟨b, 1 + rowN e.pc * 2, none⟩)
                              | 22 => v_ = .pointer (some ⟨b, 1 + rowN e.pc * 2, none⟩)
                              | 23 => v_ = .pointer (some ⟨b, 1 + rowN e.pc * 2, none⟩)
                              | 24 => v_ = .int .u64 (q.h (rowN e.pc)).1
                              | 25 => v_ = .pointer (some ⟨y, 0, none⟩)
                              | 26 => v_ = .pointer (some ⟨y, 0, none⟩)
                              | 27 => v_ = .pointer (some ⟨y, 1, none⟩)
                              | 28 => v_ = .int .u64 xk.pc
                              | 29 => v_ = .bool ((q.h (rowN e.pc)).1 == xk.pc)
                              | 30 => v_ = .bool ((q.h (rowN e.pc)).1 == xk.pc)
                              | 31 => v_ = .bool ((q.h (rowN e.pc)).1 == xk.pc)
                              | _ => v_ = .pointer (some ⟨k7, 0, none⟩)) fol (by kernel_rfl) ?_ ?_ (n := 33) rfl rfl rfl (by kernel_rfl) ?_ ?_
                          · exact hJ.drew
                          · intro k_ v_ w_ w2_ h1 hg
                            split at h1 <;> exact h1
                          · intro vals
                            show wpG _ _ _ _ _ _ 0 (_ :: _) _
                            refine wpG_cons (gval (.pointer (some ⟨k7, 0, none⟩)) (fun _ => trivial) fun w_ hJ hd => ?_) ?_
                            · exact ⟨by kernel_rfl, by kernel_rfl, rfl⟩
                            refine wpG_cons (gop (Instr.loadAt 4 (.pointer (some ⟨k7, 0, none⟩))) (.bool false) (fun _ => trivial) fun w_ hJ hd => ?_) ?_
                            · have e0 : vals 0 = _ := hd 0 (by decide) (by kernel_rfl)
                              rw [e0]
                              exact ⟨by kernel_rfl, by kernel_rfl, run_load1 (by kernel_rfl) ((cells3f hJ.heap).1), rfl⟩
                            refine wpG_cons (gval (.bool false) (fun _ => trivial) fun w_ hJ hd => ?_) ?_
                            · have e1 : vals 1 = _ := hd 1 (by decide) (by kernel_rfl)
                              rw [e1]
                              exact ⟨by kernel_rfl, by kernel_rfl, rfl⟩
                            refine wpG_cons (gval (.pointer (some ⟨y, 0, none⟩)) (fun _ => trivial) fun w_ hJ hd => ?_) ?_
                            · have e2 : vals 2 = _ := hd 2 (by decide) (by kernel_rfl)
                              rw [e2]
                              exact ⟨by kernel_rfl, by kernel_rfl, rfl⟩
                            refine wpG_cons (gval (.pointer (some ⟨y, 0, none⟩)) (fun _ => trivial) fun w_ hJ hd => ?_) ?_
                            · have e2 : vals 2 = _ := hd 2 (by decide) (by kernel_rfl)
                              have e3 : vals 3 = _ := hd 3 (by decide) (by kernel_rfl)
                              rw [e2, e3]
                              exact ⟨by kernel_rfl, by kernel_rfl, rfl⟩
                            refine wpG_cons (gval (.pointer (some ⟨y, 2, none⟩)) (fun _ => trivial) fun w_ hJ hd => ?_) ?_
                            · have e2 : vals 2 = _ := hd 2 (by decide) (by kernel_rfl)
                              have e4 : vals 4 = _ := hd 4 (by decide) (by kernel_rfl)
                              rw [e2, e4]
                              exact ⟨by kernel_rfl, by kernel_rfl, rfl⟩
                            refine wpG_cons (gop (Instr.loadAt 4 (.pointer (some ⟨y, 2, none⟩))) (.bool true) (fun _ => trivial) fun w_ hJ hd => ?_) ?_
                            · have e2 : vals 2 = _ := hd 2 (by decide) (by kernel_rfl)
                              have e5 : vals 5 = _ := hd 5 (by decide) (by kernel_rfl)
                              rw [e2, e5]
                              exact ⟨by kernel_rfl, by kernel_rfl, run_load1 (by kernel_rfl) (by rw [← hxs]; exact Y2 _ w_ hJ), rfl⟩
                            refine wpG_cons (gval (.bool true) (fun _ => trivial) fun w_ hJ hd => ?_) ?_
                            · have e2 : vals 2 = _ := hd 2 (by decide) (by kernel_rfl)
                              have e6 : vals 6 = _ := hd 6 (by decide) (by kernel_rfl)
                              rw [e2, e6]
                              exact ⟨by kernel_rfl, by kernel_rfl, rfl⟩
                            refine wpG_cons (gval (.pointer (some ⟨y, 0, none⟩)) (fun _ => trivial) fun w_ hJ hd => ?_) ?_
                            · have e7 : vals 7 = _ := hd 7 (by decide) (by kernel_rfl)
                              rw [e7]
                              exact ⟨by kernel_rfl, by kernel_rfl, rfl⟩
                            refine wpG_cons (gval (.pointer (some ⟨y, 0, none⟩)) (fun _ => trivial) fun w_ hJ hd => ?_) ?_
                            · have e7 : vals 7 = _ := hd 7 (by decide) (by kernel_rfl)
                              have e8 : vals 8 = _ := hd 8 (by decide) (by kernel_rfl)
                              rw [e7, e8]
                              exact ⟨by kernel_rfl, by kernel_rfl, rfl⟩
                            refine wpG_cons (gval (.pointer (some ⟨y, 3, none⟩)) (fun _ => trivial) fun w_ hJ hd => ?_) ?_
                            · have e7 : vals 7 = _ := hd 7 (by decide) (by kernel_rfl)
                              have e9 : vals 9 = _ := hd 9 (by decide) (by kernel_rfl)
                              rw [e7, e9]
                              exact ⟨by kernel_rfl, by kernel_rfl, rfl⟩
                            refine wpG_cons (gop (Instr.loadAt 4 (.pointer (some ⟨y, 3, none⟩))) (.bool false) (fun _ => trivial) fun w_ hJ hd => ?_) ?_
                            · have e7 : vals 7 = _ := hd 7 (by decide) (by kernel_rfl)
                              have e10 : vals 10 = _ := hd 10 (by decide) (by kernel_rfl)
                              rw [e7, e10]
                              exact ⟨by kernel_rfl, by kernel_rfl, run_load1 (by kernel_rfl) (by rw [← hxp]; exact Y3 _ w_ hJ), rfl⟩
                            refine wpG_cons (gval (.bool true) (fun _ => trivial) fun w_ hJ hd => ?_) ?_
                            · have e7 : vals 7 = _ := hd 7 (by decide) (by kernel_rfl)
                              have e11 : vals 11 = _ := hd 11 (by decide) (by kernel_rfl)
                              rw [e7, e11]
                              exact ⟨by kernel_rfl, by kernel_rfl, rfl⟩
                            refine wpG_cons (gval (.bool true) (fun _ => trivial) fun w_ hJ hd => ?_) ?_
                            · have e2 : vals 2 = _ := hd 2 (by decide) (by kernel_rfl)
                              have e7 : vals 7 = _ := hd 7 (by decide) (by kernel_rfl)
                              have e12 : vals 12 = _ := hd 12 (by decide) (by kernel_rfl)
                              rw [e2, e7, e12]
                              exact ⟨by kernel_rfl, by kernel_rfl, rfl⟩
                            refine wpG_cons (gval (.bool true) (fun _ => trivial) fun w_ hJ hd => ?_) ?_
                            · have e2 : vals 2 = _ := hd 2 (by decide) (by kernel_rfl)
                              have e13 : vals 13 = _ := hd 13 (by decide) (by kernel_rfl)
                              rw [e2, e13]
                              exact ⟨by kernel_rfl, by kernel_rfl, rfl⟩
                            refine wpG_cons (gval (.pointer (some ⟨b, 1 + rowN e.pc * 2, none⟩)) (fun _ => trivial) fun w_ hJ hd => ?_) ?_
                            · have e14 : vals 14 = _ := hd 14 (by decide) (by kernel_rfl)
                              rw [e14]
                              exact ⟨by kernel_rfl, by kernel_rfl, rfl⟩
                            refine wpG_cons (gval (.pointer (some ⟨b, 1 + rowN e.pc * 2, none⟩)) (fun _ => trivial) fun w_ hJ hd => ?_) ?_
                            · have e14 : vals 14 = _ := hd 14 (by decide) (by kernel_rfl)
                              have e15 : vals 15 = _ := hd 15 (by decide) (by kernel_rfl)
                              rw [e14, e15]
                              exact ⟨by kernel_rfl, by kernel_rfl, rfl⟩
                            refine wpG_cons (gval (.pointer (some ⟨b, 1 + rowN e.pc * 2 + 1, none⟩)) (fun _ => trivial) fun w_ hJ hd => ?_) ?_
                            · have e14 : vals 14 = _ := hd 14 (by decide) (by kernel_rfl)
                              have e16 : vals 16 = _ := hd 16 (by decide) (by kernel_rfl)
                              rw [e14, e16]
                              exact ⟨by kernel_rfl, by kernel_rfl, rfl⟩
                            refine wpG_cons (gop (Instr.loadAt 4 (.pointer (some ⟨b, 1 + rowN e.pc * 2 + 1, none⟩))) (.bool true) (fun _ => trivial) fun w_ hJ hd => ?_) ?_
                            · have e14 : vals 14 = _ := hd 14 (by decide) (by kernel_rfl)
                              have e17 : vals 17 = _ := hd 17 (by decide) (by kernel_rfl)
                              rw [e14, e17]
                              exact ⟨by kernel_rfl, by kernel_rfl, run_load1 (by kernel_rfl) (by rw [← hxh]; exact Y4 _ w_ hJ), rfl⟩
                            refine wpG_cons (gval (.bool true) (fun _ => trivial) fun w_ hJ hd => ?_) ?_
                            · have e2 : vals 2 = _ := hd 2 (by decide) (by kernel_rfl)
                              have e14 : vals 14 = _ := hd 14 (by decide) (by kernel_rfl)
                              have e18 : vals 18 = _ := hd 18 (by decide) (by kernel_rfl)
                              rw [e2, e14, e18]
                              exact ⟨by kernel_rfl, by kernel_rfl, rfl⟩
                            refine wpG_cons (gval (.bool true) (fun _ => trivial) fun w_ hJ hd => ?_) ?_
                            · have e2 : vals 2 = _ := hd 2 (by decide) (by kernel_rfl)
                              have e19 : vals 19 = _ := hd 19 (by decide) (by kernel_rfl)
                              rw [e2, e19]
                              exact ⟨by kernel_rfl, by kernel_rfl, rfl⟩
                            refine wpG_cons (gval (.pointer (some ⟨b, 1 + rowN e.pc * 2, none⟩)) (fun _ => trivial) fun w_ hJ hd => ?_) ?_
                            · have e20 : vals 20 = _ := hd 20 (by decide) (by kernel_rfl)
                              rw [e20]
                              exact ⟨by kernel_rfl, by kernel_rfl, rfl⟩
                            refine wpG_cons (gval (.pointer (some ⟨b, 1 + rowN e.pc * 2, none⟩)) (fun _ => trivial) fun w_ hJ hd => ?_) ?_
                            · have e20 : vals 20 = _ := hd 20 (by decide) (by kernel_rfl)
                              have e21 : vals 21 = _ := hd 21 (by decide) (by kernel_rfl)
                              rw [e20, e21]
                              exact ⟨by kernel_rfl, by kernel_rfl, rfl⟩
                            refine wpG_cons (gval (.pointer (some ⟨b, 1 + rowN e.pc * 2, none⟩)) (fun _ => trivial) fun w_ hJ hd => ?_) ?_
                            · have e20 : vals 20 = _ := hd 20 (by decide) (by kernel_rfl)
                              have e22 : vals 22 = _ := hd 22 (by decide) (by kernel_rfl)
                              rw [e20, e22]
                              exact ⟨by kernel_rfl, by kernel_rfl, rfl⟩
                            refine wpG_cons (gop (Instr.loadAt 28 (.pointer (some ⟨b, 1 + rowN e.pc * 2, none⟩))) (.int .u64 (q.h (rowN e.pc)).1) (fun _ => trivial) fun w_ hJ hd => ?_) ?_
                            · have e20 : vals 20 = _ := hd 20 (by decide) (by kernel_rfl)
                              have e23 : vals 23 = _ := hd 23 (by decide) (by kernel_rfl)
                              rw [e20, e23]
                              exact ⟨by kernel_rfl, by kernel_rfl, run_load1 (by kernel_rfl) (Y5 _ w_ hJ), rfl⟩
                            refine wpG_cons (gval (.pointer (some ⟨y, 0, none⟩)) (fun _ => trivial) fun w_ hJ hd => ?_) ?_
                            · have e20 : vals 20 = _ := hd 20 (by decide) (by kernel_rfl)
                              rw [e20]
                              exact ⟨by kernel_rfl, by kernel_rfl, rfl⟩
                            refine wpG_cons (gval (.pointer (some ⟨y, 0, none⟩)) (fun _ => trivial) fun w_ hJ hd => ?_) ?_
                            · have e20 : vals 20 = _ := hd 20 (by decide) (by kernel_rfl)
                              have e25 : vals 25 = _ := hd 25 (by decide) (by kernel_rfl)
                              rw [e20, e25]
                              exact ⟨by kernel_rfl, by kernel_rfl, rfl⟩
                            refine wpG_cons (gval (.pointer (some ⟨y, 1, none⟩)) (fun _ => trivial) fun w_ hJ hd => ?_) ?_
                            · have e20 : vals 20 = _ := hd 20 (by decide) (by kernel_rfl)
                              have e26 : vals 26 = _ := hd 26 (by decide) (by kernel_rfl)
                              rw [e20, e26]
                              exact ⟨by kernel_rfl, by kernel_rfl, rfl⟩
                            refine wpG_cons (gop (Instr.loadAt 28 (.pointer (some ⟨y, 1, none⟩))) (.int .u64 xk.pc) (fun _ => trivial) fun w_ hJ hd => ?_) ?_
                            · have e20 : vals 20 = _ := hd 20 (by decide) (by kernel_rfl)
                              have e27 : vals 27 = _ := hd 27 (by decide) (by kernel_rfl)
                              rw [e20, e27]
                              exact ⟨by kernel_rfl, by kernel_rfl, run_load1 (by kernel_rfl) (Y1 _ w_ hJ), rfl⟩
                            refine wpG_cons (gval (.bool ((q.h (rowN e.pc)).1 == xk.pc)) (fun _ => trivial) fun w_ hJ hd => ?_) ?_
                            · have e20 : vals 20 = _ := hd 20 (by decide) (by kernel_rfl)
                              have e24 : vals 24 = _ := hd 24 (by decide) (by kernel_rfl)
                              have e28 : vals 28 = _ := hd 28 (by decide) (by kernel_rfl)
                              rw [e20, e24, e28]
                              exact ⟨by kernel_rfl, by kernel_rfl, rfl⟩
                            refine wpG_cons (gval (.bool ((q.h (rowN e.pc)).1 == xk.pc)) (fun _ => trivial) fun w_ hJ hd => ?_) ?_
                            · have e2 : vals 2 = _ := hd 2 (by decide) (by kernel_rfl)
                              have e20 : vals 20 = _ := hd 20 (by decide) (by kernel_rfl)
                              have e29 : vals 29 = _ := hd 29 (by decide) (by kernel_rfl)
                              rw [e2, e20, e29]
                              exact ⟨by kernel_rfl, by kernel_rfl, rfl⟩
                            refine wpG_cons (gval (.bool ((q.h (rowN e.pc)).1 == xk.pc)) (fun _ => trivial) fun w_ hJ hd => ?_) ?_
                            · have e2 : vals 2 = _ := hd 2 (by decide) (by kernel_rfl)
                              have e30 : vals 30 = _ := hd 30 (by decide) (by kernel_rfl)
                              rw [e2, e30]
                              exact ⟨by kernel_rfl, by kernel_rfl, rfl⟩
                            refine wpG_cons (gval (.pointer (some ⟨k7, 0, none⟩)) (fun _ => trivial) fun w_ hJ hd => ?_) wpG_nil
                            · exact ⟨by kernel_rfl, by kernel_rfl, rfl⟩
                          · intro vals w_ hJ hf
                            have e0 : vals 0 = _ := hf 0 (by decide)
                            have e1 : vals 1 = _ := hf 1 (by decide)
                            have e2 : vals 2 = _ := hf 2 (by decide)
                            have e3 : vals 3 = _ := hf 3 (by decide)
                            have e4 : vals 4 = _ := hf 4 (by decide)
                            have e5 : vals 5 = _ := hf 5 (by decide)
                            have e6 : vals 6 = _ := hf 6 (by decide)
                            have e7 : vals 7 = _ := hf 7 (by decide)
                            have e8 : vals 8 = _ := hf 8 (by decide)
                            have e9 : vals 9 = _ := hf 9 (by decide)
                            have e10 : vals 10 = _ := hf 10 (by decide)
                            have e11 : vals 11 = _ := hf 11 (by decide)
                            have e12 : vals 12 = _ := hf 12 (by decide)
                            have e13 : vals 13 = _ := hf 13 (by decide)
                            have e14 : vals 14 = _ := hf 14 (by decide)
                            have e15 : vals 15 = _ := hf 15 (by decide)
                            have e16 : vals 16 = _ := hf 16 (by decide)
                            have e17 : vals 17 = _ := hf 17 (by decide)
                            have e18 : vals 18 = _ := hf 18 (by decide)
                            have e19 : vals 19 = _ := hf 19 (by decide)
                            have e20 : vals 20 = _ := hf 20 (by decide)
                            have e21 : vals 21 = _ := hf 21 (by decide)
                            have e22 : vals 22 = _ := hf 22 (by decide)
                            have e23 : vals 23 = _ := hf 23 (by decide)
                            have e24 : vals 24 = _ := hf 24 (by decide)
                            have e25 : vals 25 = _ := hf 25 (by decide)
                            have e26 : vals 26 = _ := hf 26 (by decide)
                            have e27 : vals 27 = _ := hf 27 (by decide)
                            have e28 : vals 28 = _ := hf 28 (by decide)
                            have e29 : vals 29 = _ := hf 29 (by decide)
                            have e30 : vals 30 = _ := hf 30 (by decide)
                            have e31 : vals 31 = _ := hf 31 (by decide)
                            have e32 : vals 32 = _ := hf 32 (by decide)
                            show Oper.wp _ _ (fillG vals 0 (_ :: _ :: _ :: _ :: _ :: _ :: _ :: _ :: _ :: _ :: _ :: _ :: _ :: _ :: _ :: _ :: _ :: _ :: _ :: _ :: _ :: _ :: _ :: _ :: _ :: _ :: _ :: _ :: _ :: _ :: _ :: _ :: _ :: []) _) _ _ _
                            simp only [fillG, Nat.zero_add, Nat.reduceAdd, e0, e1, e2, e3, e4, e5, e6, e7, e8, e9, e10, e11, e12, e13, e14, e15, e16, e17, e18, e19, e20, e21, e22, e23, e24, e25, e26, e27, e28, e29, e30, e31, e32, Act.put, List.setIfInBounds_toArray, List.set_cons_succ, List.set_cons_zero]
                            clear e0 e1 e2 e3 e4 e5 e6 e7 e8 e9 e10 e11 e12 e13 e14 e15 e16 e17 e18 e19 e20 e21 e22 e23 e24 e25 e26 e27 e28 e29 e30 e31 e32 hf
                            refine wp_last_skip (w' := w_.setCell ⟨k7, 0, none⟩ (.bool ((q.h (rowN e.pc)).1 == xk.pc))) (m := Instr.storeAt 4 (.pointer (some ⟨k7, 0, none⟩)) (.bool ((q.h (rowN e.pc)).1 == xk.pc))) (by kernel_rfl) (run_store1 (by kernel_rfl) rfl rfl (cells3f hJ.heap).1 (cells3f hJ.heap).2.2.2.1) ?_
                            first | show Exit.then _ _ Exit.normal (Act.put ⟨_, _⟩ none _) _ | show Exit.inBlock _ _ Exit.normal (Act.put ⟨_, _⟩ none _) _ | skip
                            simp only [Act.put]
                            have hJ9 : Heap w0 (w_.setCell ⟨k7, 0, none⟩ (.bool ((q.h (rowN e.pc)).1 == xk.pc))) (HP.blk k7 #[.bool (waitN q e (k + 1)), .int .u8 0, .int .u64 0] 37 :: HP.blk k6 #[.int .i64 (n : Nat)] 3 :: HP.blk k4 #[.bool false, .int .u8 0, .int .u64 0] 37 :: HP.blk kQ #[ptr b] 24 :: O b (some ⟨g, o, none⟩) cap bs q L) := by
                              rw [show waitN q e (k + 1) = ((q.h (rowN e.pc)).1 == xk.pc) from by rw [hupk, hwk]; simp [hxs, hxp, hxh]]
                              exact hJ.set 0 (.bool ((q.h (rowN e.pc)).1 == xk.pc))
                            generalize w_.setCell ⟨k7, 0, none⟩ (.bool ((q.h (rowN e.pc)).1 == xk.pc)) = w9 at *
                            clear hJ
                            go_wp2
                            exact ⟨⟨k + 1, by go_num, by omega, hJ9⟩, by simp [intOf]; omega⟩
                · obtain rfl : k = n := by omega
                  have hmf1 := fun (fn : Fn) (first cap : Array Value) (w : World) => hmf fn first cap w
                  have cQ := (cells1 hJ.f4.heap).1
                  have hQl := lt_of_heap' hJ.f4.heap
                  have c6 := (cells1 hJ.f2.heap).1
                  have h6l := lt_of_heap' hJ.f2.heap
                  have hc := hide (each42 (wb := waitN q e k) (unhide HR).ok (unhide He) (L := HP.blk k4 #[.bool false, .int .u8 0, .int .u64 0] 37 :: L) (hJ.f4.f4.f7.f7.f7.f7.f7.f7))
                  clear hJ hup
                  unfold ptr at cQ
                  go_wp2_with fail
                  refine (unhide hc).mono ?_
                  rintro r w2 ⟨rfl, hE⟩
                  clear hc cQ hQl c6 h6l
                  have hlk : lookG q k e = if (gotN q.l e k (waitN q e k) e.size.toNat).wait then ⟨true, 0, 0⟩ else gotN q.l e k (waitN q e k) e.size.toNat := rfl
                  generalize gotN q.l e k (waitN q e k) e.size.toNat = G at *
                  obtain ⟨gw, gm, gv⟩ := G
                  have hE : Heap w0 w2 (HP.blk kQ #[ptr b] 24 :: HP.blk k7 #[.bool gw, .int .u8 gm, .int .u64 gv] 37 :: HP.blk k6 #[.int .i64 (k : Nat)] 3 :: O b (some ⟨g, o, none⟩) cap bs q (HP.blk k4 #[.bool false, .int .u8 0, .int .u64 0] 37 :: L)) := hE
                  obtain ⟨a0, a1, a2, _, _, _⟩ := cells3f hE.f2.heap
                  have hl7 := lt_of_heap' hE.f2.heap
                  have hE4 := Heap.f7 hE
                  obtain ⟨e0, e1, e2, f0, f1, f2⟩ := cells3f hE4.heap
                  have hl4 := lt_of_heap' hE4.heap
                  cases gw with
                  | true =>
                    have hfin := hide (show R = (⟨true, 0, 0⟩, true) by rw [unhide hwq, hlk]; rfl)
                    have h7 : Heap w0 (((w2.setCell ⟨k4, 0, none⟩ (.bool true)).setCell ⟨k4, 1, none⟩ (.int .u8 0)).setCell ⟨k4, 2, none⟩ (.int .u64 0)) (HP.blk k4 #[.bool true, .int .u8 0, .int .u64 0] 37 :: HP.blk kQ #[ptr b] 24 :: HP.blk k7 #[.bool true, .int .u8 gm, .int .u64 gv] 37 :: HP.blk k6 #[.int .i64 (k : Nat)] 3 :: O b (some ⟨g, o, none⟩) cap bs q L) := ((hE4.set 0 (.bool true)).set 1 (.int .u8 0)).set 2 (.int .u64 0)
                    have H7 := hide h7
                    clear hE hE4 h7
                    go_wp2
                    exact bodyPost_ret (v := .tuple #[.agg #[.bool true, .int .u8 0, .int .u64 0], .bool true]) (resG rfl rfl rfl (unhide H7).heap) rfl ⟨by rw [unhide hfin]; rfl, Heap.qc (unhide HR).inv (unhide HR).lenl (unhide H7).tail.tail.tail.tail⟩
                  | false =>
                    have hfin := hide (show R = (⟨false, gm, gv⟩, true) by rw [unhide hwq, hlk]; rfl)
                    have h7 : Heap w0 (((w2.setCell ⟨k4, 0, none⟩ (.bool false)).setCell ⟨k4, 1, none⟩ (.int .u8 gm)).setCell ⟨k4, 2, none⟩ (.int .u64 gv)) (HP.blk k4 #[.bool false, .int .u8 gm, .int .u64 gv] 37 :: HP.blk kQ #[ptr b] 24 :: HP.blk k7 #[.bool false, .int .u8 gm, .int .u64 gv] 37 :: HP.blk k6 #[.int .i64 (k : Nat)] 3 :: O b (some ⟨g, o, none⟩) cap bs q L) := ((hE4.set 0 (.bool false)).set 1 (.int .u8 gm)).set 2 (.int .u64 gv)
                    have H7 := hide h7
                    clear hE hE4 h7
                    go_wp2
                    exact bodyPost_ret (v := .tuple #[.agg #[.bool false, .int .u8 gm, .int .u64 gv], .bool true]) (resG rfl rfl rfl (unhide H7).heap) rfl ⟨by rw [unhide hfin]; rfl, Heap.qc (unhide HR).inv (unhide HR).lenl (unhide H7).tail.tail.tail.tail⟩
end
end Go.Proofs.Ytdmkgomcomcfhaa
