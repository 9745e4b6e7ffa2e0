/- Layer 20, the document's front: its state; New, Redirect, Want. -/
import Derived.Test.YtblbgalpkodibaaDoorF11
import Derived.Test.YtblbgalpkodibaaDoorG18
namespace Go.Proofs.YtblbgalpkodibaaDoor
open Go.RowKit

section
variable {w0 w : World} {L : List HP} {b : Nat} {c : St}
theorem learnR_h (h : Heap w0 w (HP.rg b c :: L)) (pc kind : Int) (taken : Bool) (tgt : Int) (p0 : 0 ≤ pc) (p1 : pc < 18446744073709551616) (t0 : 0 ≤ tgt) (t1 : tgt < 18446744073709551616) :
    Calls Tryd.prog 27 #[.pointer (some ⟨b, 0, none⟩), .int .u64 pc, .int .i64 kind, .bool taken, .int .u64 tgt] w fun r w' => r = .returned (.tuple #[]) ∧ Heap w0 w' (HP.rg b (lSt c pc kind taken tgt) :: L) := by
  obtain ⟨g1, o1, c1, g2, o2, c2, A3, c3, g4, o4, c4, hI, hh⟩ := h.rgo
  exact learnR_k hh hI pc kind taken tgt p0 p1 t0 t1
theorem nextR_h (h : Heap w0 w (HP.rg b c :: L)) (pc size : Int) (p0 : 0 ≤ pc) (p1 : pc < 18446744073709551616) :
    Calls Tryd.prog 39 #[.pointer (some ⟨b, 0, none⟩), .int .u64 pc, .int .i64 size] w fun r w' => r = .returned (.int .u64 (nOut c pc size)) ∧ Heap w0 w' (HP.rg b (nSt c pc size) :: L) := by
  obtain ⟨g1, o1, c1, g2, o2, c2, A3, c3, g4, o4, c4, hI, hh⟩ := h.rgo
  exact nextR_k hh hI pc size p0 p1
end
/-- The halves that wait. -/
def hlf (F : Fr) : List Nat := if F.some then [F.first.toNat] else []
def rfv (g : Nat) (F : Fr) (u v : Value) : List Value := [.pointer (some ⟨g, 0, none⟩), .int .u64 F.at_, u, .bool F.stop, v]
/-- The document's front: its block, the halves, the queue. -/
def RB (b g : Nat) (F : Fr) (hs : List Nat) (u v : Value) (L : List HP) : List HP := HP.blk b (rfv g F u v).toArray 69 :: HP.slw u 1 hs.length (hvs hs) :: HP.slw v 13 F.q.length (itsC F.q) :: L
/-- Which halves lie there: while it has not stopped, those that wait. -/
def HsOk (F : Fr) (hs : List Nat) : Prop := F.stop = false → hs = hlf F
def HP.rf (b g : Nat) (F : Fr) : HP := HP.any fun p : List Nat × Value × Value => HP.und (HsOk F p.1) (((HP.blk b (rfv g F p.2.1 p.2.2).toArray 69).star (HP.slw p.2.1 1 p.1.length (hvs p.1))).star (HP.slw p.2.2 13 F.q.length (itsC F.q)))
section
variable {w0 w w' : World} {L : List HP} {b g : Nat} {F : Fr} {c : St}
theorem Heap.rf : Heap w0 w (HP.rf b g F :: L) ↔ ∃ hs u v, HsOk F hs ∧ Heap w0 w (RB b g F hs u v L) := by
  simp only [HP.rf, Heap.any, Heap.und, Heap.star, RB]
  exact ⟨fun ⟨⟨hs, u, v⟩, ho, h⟩ => ⟨hs, u, v, ho, h⟩, fun ⟨hs, u, v, ho, h⟩ => ⟨(hs, u, v), ho, h⟩⟩
theorem Heap.rfo (h : Heap w0 w (HP.rf b g F :: L)) : ∃ hs A1 c1 A2 c2, HsOk F hs ∧ Heap w0 w (RB b g F hs (.slice A1 hs.length c1) (.slice A2 F.q.length c2) L) := by
  obtain ⟨hs, u, v, ho, h⟩ := Heap.rf.1 h
  unfold RB at h
  obtain ⟨A1, c1, rfl, _⟩ := h.f2.slw.parts
  obtain ⟨A2, c2, rfl, _⟩ := h.f3.slw.parts
  exact ⟨hs, A1, c1, A2, c2, ho, h⟩
theorem Heap.rfc (hs : List Nat) (u v : Value) (ho : HsOk F hs) (h : Heap w0 w (RB b g F hs u v L)) : Heap w0 w (HP.rf b g F :: L) := Heap.rf.2 ⟨hs, u, v, ho, h⟩
theorem quo2 (pc : Int) (p0 : 0 ≤ pc) : pc.tdiv 2 = pc / 2 := Int.tdiv_eq_ediv_of_nonneg p0
set_option maxRecDepth 100000 in
set_option maxHeartbeats 1000000 in
theorem newR_f (h : Heap w0 w L) (pc : Int) (p0 : 0 ≤ pc) (p1 : pc < 18446744073709551616) :
    Calls Tryd.prog 20 #[.int .u64 pc, .pointer (some ⟨g, 0, none⟩)] w fun r w' => ∃ b, r = .returned (.pointer (some ⟨b, 0, none⟩)) ∧ Heap w0 w' (HP.rf b g (newF pc) :: L) := by
  have e1 := quo2 pc p0
  have J1 := ((h.noneS (sz := 13)).noneS (sz := 1)).new (rfv g (newF pc) (.slice none 0 0) (.slice none 0 0)).toArray 69
  have hfin := Heap.rfc [] _ _ (fun _ => rfl) J1
  unfold rfv newF evn at hfin
  go_enter Tryd.func20, Tryd.ntmps20
  go_wp2
  go_ret
  exact ⟨_, rfl, hfin⟩
set_option maxRecDepth 100000 in
set_option maxHeartbeats 1000000 in
theorem redirectR_f (h : Heap w0 w (HP.rf b g F :: L)) (pc : Int) (p0 : 0 ≤ pc) (p1 : pc < 18446744073709551616) :
    Calls Tryd.prog 25 #[.pointer (some ⟨b, 0, none⟩), .int .u64 pc] w fun r w' => r = .returned (.tuple #[]) ∧ Heap w0 w' (HP.rf b g (newF pc) :: L) := by
  have e1 := quo2 pc p0
  obtain ⟨hs, A1, c1, A2, c2, _, h⟩ := h.rfo
  unfold RB rfv at h
  have hb := h.heap
  have d0 : w.cell? ⟨b, 0, none⟩ = some (.pointer (some ⟨g, 0, none⟩)) := (cell_blk hb 0).1
  have d1 : w.cell? ⟨b, 1, none⟩ = some (.int .u64 F.at_) := (cell_blk hb 1).1
  have d2 : w.cell? ⟨b, 2, none⟩ = some (.slice A1 hs.length c1) := (cell_blk hb 2).1
  have d3 : w.cell? ⟨b, 3, none⟩ = some (.bool F.stop) := (cell_blk hb 3).1
  have d4 : w.cell? ⟨b, 4, none⟩ = some (.slice A2 F.q.length c2) := (cell_blk hb 4).1
  have f1 := (cell_blk hb 1).2
  have f2 := (cell_blk hb 2).2
  have f3 := (cell_blk hb 3).2
  have f4 := (cell_blk hb 4).2
  have hlt := lt_of_heap' hb
  have h5 := (((h.setl 1 (.int .u64 (pc / 2 * 2))).setl 2 (.slice none 0 0)).setl 3 (.bool false)).setl 4 (.slice none 0 0)
  have H := hide ((Heap.sort (L1 := [_, _, _]) (L2 := [_, _, _]) (M := L) h5 [1, 2, 0] rfl rfl (by decide)).tail.tail)
  clear h hb h5
  go_enter Tryd.func25, Tryd.ntmps25
  go_wp2
  refine bodyPost_end (v := .tuple #[]) (by simp [results, Tryd.results25, go_sem]) rfl ⟨rfl, ?_⟩
  exact Heap.rfc [] (.slice none 0 0) (.slice none 0 0) (fun _ => rfl) (Heap.sort (L1 := [_, _, _]) (L2 := [_, _, _]) (M := L) (((unhide H).noneS (sz := 13)).noneS (sz := 1)) [2, 0, 1] rfl rfl (by decide))
set_option maxRecDepth 100000 in
set_option maxHeartbeats 1000000 in
theorem wantR_f (hI : FI F) (h : Heap w0 w (HP.rf b g F :: L)) :
    Calls Tryd.prog 29 #[.pointer (some ⟨b, 0, none⟩)] w fun r w' => r = .returned (.tuple #[.int .u64 (bif canF F then atF F else 0), .bool (canF F)]) ∧ GN w w' := by
  obtain ⟨hs, A1, c1, A2, c2, ho, h⟩ := h.rfo
  have hat := hI.at_
  have hlen := hI.len
  unfold RB rfv at h
  have hb := h.heap
  have d1 : w.cell? ⟨b, 1, none⟩ = some (.int .u64 F.at_) := (cell_blk hb 1).1
  have d2 : w.cell? ⟨b, 2, none⟩ = some (.slice A1 hs.length c1) := (cell_blk hb 2).1
  have d3 : w.cell? ⟨b, 3, none⟩ = some (.bool F.stop) := (cell_blk hb 3).1
  have d4 : w.cell? ⟨b, 4, none⟩ = some (.slice A2 F.q.length c2) := (cell_blk hb 4).1
  have hlt := lt_of_heap' hb
  clear hb h hI
  obtain ⟨at_, first, sm, stop, q⟩ := F
  unfold HsOk hlf at ho
  simp only at d1 d2 d3 d4 hat hlen ho
  unfold canF atF
  simp only
  obtain ⟨n, hn⟩ : ∃ n, q.length = n := ⟨_, rfl⟩
  rw [hn] at d4 hlen ⊢
  clear hn
  have e1 : IntKind.u64.wrap (at_ + 2) = w64 (at_ + 2) := IntKind.wrap_u64 _
  have e2 : IntKind.u64.wrap at_ = at_ := by rw [IntKind.wrap_u64]; omega
  go_enter Tryd.func29, Tryd.ntmps29
  by_cases hq : n < 8
  · have z : decide (n < 8) = true := decide_eq_true hq
    have hq' : ¬ n = 8 := by omega
    have hq2 : ((n : Int) == 8) = false := beq_eq_false_iff_ne.2 (by omega)
    rw [z]
    cases stop with
    | true =>
      clear ho
      go_wp2
      all_goals go_ret2
      all_goals exact ⟨rfl, GN.refl w⟩
    | false =>
      rw [ho rfl] at d2
      clear ho
      cases sm with
      | true =>
        go_upto_region 3 with fail
        refine wp_region_F (fun w_ => GN w w_) GN (fun k_ v_ w_ => match k_ with
            | 0 => v_ = .pointer (some ⟨b, 0, none⟩)
            | 1 => v_ = .pointer (some ⟨b, 0, none⟩)
            | 2 => v_ = .pointer (some ⟨b, 0 + 1, none⟩)
            | 3 => v_ = .int .u64 at_
            | 4 => v_ = .pointer (some ⟨b, 0, none⟩)
            | 5 => v_ = .pointer (some ⟨b, 0, none⟩)
            | 6 => v_ = .pointer (some ⟨b, 0 + 2, none⟩)
            | 7 => v_ = .slice A1 1 c1
            | 8 => v_ = .int .i64 1
            | 9 => v_ = .int .u64 1
            | 10 => v_ = .int .u64 2
            | 11 => v_ = .int .u64 (IntKind.u64.wrap (at_ + 2))
            | 12 => v_ = .int .u64 (IntKind.u64.wrap (at_ + 2))
            | _ => v_ = .bool true) fol (by kernel_rfl) ?_ ?_ ?_ ?_
        · exact (GN.refl w).drew
        · intro k_ v_ w_ w2_ h1 hg
          split at h1 <;> exact h1
        · intro vals
          show wpG _ _ _ _ _ _ 0 (_ :: _) _
          refine wpG_cons (gval (.pointer (some ⟨b, 0, none⟩)) GN.refl fun w_ hJ hd => ?_) ?_
          · exact ⟨by kernel_rfl, by kernel_rfl, rfl⟩
          refine wpG_cons (gval (.pointer (some ⟨b, 0, none⟩)) GN.refl fun w_ hJ hd => ?_) ?_
          · have e0 : vals 0 = _ := hd 0 (by decide) (by kernel_rfl)
            rw [e0]
            exact ⟨by kernel_rfl, by kernel_rfl, rfl⟩
          refine wpG_cons (gval (.pointer (some ⟨b, 0 + 1, none⟩)) GN.refl fun w_ hJ hd => ?_) ?_
          · have e1 : vals 1 = _ := hd 1 (by decide) (by kernel_rfl)
            rw [e1]
            exact ⟨by kernel_rfl, by kernel_rfl, rfl⟩
          refine wpG_cons (gop (Instr.loadAt 22 (.pointer (some ⟨b, 0 + 1, none⟩))) (.int .u64 at_) GN.refl fun w_ hJ hd => ?_) ?_
          · have e2 : vals 2 = _ := hd 2 (by decide) (by kernel_rfl)
            rw [e2]
            exact ⟨by kernel_rfl, by kernel_rfl, run_load1 (by kernel_rfl) (cell_GN hJ d1), rfl⟩
          refine wpG_cons (gval (.pointer (some ⟨b, 0, none⟩)) GN.refl fun w_ hJ hd => ?_) ?_
          · exact ⟨by kernel_rfl, by kernel_rfl, rfl⟩
          refine wpG_cons (gval (.pointer (some ⟨b, 0, none⟩)) GN.refl fun w_ hJ hd => ?_) ?_
          · have e4 : vals 4 = _ := hd 4 (by decide) (by kernel_rfl)
            rw [e4]
            exact ⟨by kernel_rfl, by kernel_rfl, rfl⟩
          refine wpG_cons (gval (.pointer (some ⟨b, 0 + 2, none⟩)) GN.refl fun w_ hJ hd => ?_) ?_
          · have e5 : vals 5 = _ := hd 5 (by decide) (by kernel_rfl)
            rw [e5]
            exact ⟨by kernel_rfl, by kernel_rfl, rfl⟩
          refine wpG_cons (gop (Instr.loadAt 23 (.pointer (some ⟨b, 0 + 2, none⟩))) (.slice A1 1 c1) GN.refl fun w_ hJ hd => ?_) ?_
          · have e6 : vals 6 = _ := hd 6 (by decide) (by kernel_rfl)
            rw [e6]
            exact ⟨by kernel_rfl, by kernel_rfl, run_load1 (by kernel_rfl) (cell_GN hJ d2), rfl⟩
          refine wpG_cons (gval (.int .i64 1) GN.refl fun w_ hJ hd => ?_) ?_
          · have e7 : vals 7 = _ := hd 7 (by decide) (by kernel_rfl)
            rw [e7]
            exact ⟨by kernel_rfl, by kernel_rfl, rfl⟩
          refine wpG_cons (gval (.int .u64 1) GN.refl fun w_ hJ hd => ?_) ?_
          · have e8 : vals 8 = _ := hd 8 (by decide) (by kernel_rfl)
            rw [e8]
            exact ⟨by kernel_rfl, by kernel_rfl, rfl⟩
          refine wpG_cons (gval (.int .u64 2) GN.refl fun w_ hJ hd => ?_) ?_
          · have e9 : vals 9 = _ := hd 9 (by decide) (by kernel_rfl)
            rw [e9]
            exact ⟨by kernel_rfl, by kernel_rfl, rfl⟩
          refine wpG_cons (gval (.int .u64 (IntKind.u64.wrap (at_ + 2))) GN.refl fun w_ hJ hd => ?_) ?_
          · have e3 : vals 3 = _ := hd 3 (by decide) (by kernel_rfl)
            have e10 : vals 10 = _ := hd 10 (by decide) (by kernel_rfl)
            rw [e3, e10]
            exact ⟨by kernel_rfl, by kernel_rfl, rfl⟩
          refine wpG_cons (gval (.int .u64 (IntKind.u64.wrap (at_ + 2))) GN.refl fun w_ hJ hd => ?_) ?_
          · have e11 : vals 11 = _ := hd 11 (by decide) (by kernel_rfl)
            rw [e11]
            exact ⟨by kernel_rfl, by kernel_rfl, rfl⟩
          refine wpG_cons (gval (.bool true) GN.refl fun w_ hJ hd => ?_) wpG_nil
          · exact ⟨by kernel_rfl, by kernel_rfl, rfl⟩
        · intro vals w_ hJ hf
          have e0 : vals 0 = _ := hf 0 (by decide)
          have e1 : vals 1 = _ := hf 1 (by decide)
          have e2 : vals 2 = _ := hf 2 (by decide)
          have e3 : vals 3 = _ := hf 3 (by decide)
          have e4 : vals 4 = _ := hf 4 (by decide)
          have e5 : vals 5 = _ := hf 5 (by decide)
          have e6 : vals 6 = _ := hf 6 (by decide)
          have e7 : vals 7 = _ := hf 7 (by decide)
          have e8 : vals 8 = _ := hf 8 (by decide)
          have e9 : vals 9 = _ := hf 9 (by decide)
          have e10 : vals 10 = _ := hf 10 (by decide)
          have e11 : vals 11 = _ := hf 11 (by decide)
          have e12 : vals 12 = _ := hf 12 (by decide)
          have e13 : vals 13 = _ := hf 13 (by decide)
          simp only [fillG, Nat.zero_add, Nat.reduceAdd, e0, e1, e2, e3, e4, e5, e6, e7, e8, e9, e10, e11, e12, e13, Act.put, List.setIfInBounds_toArray, List.set_cons_succ, List.set_cons_zero]
          clear e0 e1 e2 e3 e4 e5 e6 e7 e8 e9 e10 e11 e12 e13 hf
          go_wp2
          go_ret2
          exact ⟨by rw [← e1]; rfl, hJ⟩
      | false =>
        go_upto_region 3 with fail
        refine wp_region_F (fun w_ => GN w w_) GN (fun k_ v_ w_ => match k_ with
            | 0 => v_ = .pointer (some ⟨b, 0, none⟩)
            | 1 => v_ = .pointer (some ⟨b, 0, none⟩)
            | 2 => v_ = .pointer (some ⟨b, 0 + 1, none⟩)
            | 3 => v_ = .int .u64 at_
            | 4 => v_ = .pointer (some ⟨b, 0, none⟩)
            | 5 => v_ = .pointer (some ⟨b, 0, none⟩)
            | 6 => v_ = .pointer (some ⟨b, 0 + 2, none⟩)
            | 7 => v_ = .slice A1 0 c1
            | 8 => v_ = .int .i64 0
            | 9 => v_ = .int .u64 0
            | 10 => v_ = .int .u64 0
            | 11 => v_ = .int .u64 (IntKind.u64.wrap (at_ + 0))
            | 12 => v_ = .int .u64 (IntKind.u64.wrap (at_ + 0))
            | _ => v_ = .bool true) fol (by kernel_rfl) ?_ ?_ ?_ ?_
        · exact (GN.refl w).drew
        · intro k_ v_ w_ w2_ h1 hg
          split at h1 <;> exact h1
        · intro vals
          show wpG _ _ _ _ _ _ 0 (_ :: _) _
          refine wpG_cons (gval (.pointer (some ⟨b, 0, none⟩)) GN.refl fun w_ hJ hd => ?_) ?_
          · exact ⟨by kernel_rfl, by kernel_rfl, rfl⟩
          refine wpG_cons (gval (.pointer (some ⟨b, 0, none⟩)) GN.refl fun w_ hJ hd => ?_) ?_
          · have e0 : vals 0 = _ := hd 0 (by decide) (by kernel_rfl)
            rw [e0]
            exact ⟨by kernel_rfl, by kernel_rfl, rfl⟩
          refine wpG_cons (gval (.pointer (some ⟨b, 0 + 1, none⟩)) GN.refl fun w_ hJ hd => ?_) ?_
          · have e1 : vals 1 = _ := hd 1 (by decide) (by kernel_rfl)
            rw [e1]
            exact ⟨by kernel_rfl, by kernel_rfl, rfl⟩
          refine wpG_cons (gop (Instr.loadAt 22 (.pointer (some ⟨b, 0 + 1, none⟩))) (.int .u64 at_) GN.refl fun w_ hJ hd => ?_) ?_
          · have e2 : vals 2 = _ := hd 2 (by decide) (by kernel_rfl)
            rw [e2]
            exact ⟨by kernel_rfl, by kernel_rfl, run_load1 (by kernel_rfl) (cell_GN hJ d1), rfl⟩
          refine wpG_cons (gval (.pointer (some ⟨b, 0, none⟩)) GN.refl fun w_ hJ hd => ?_) ?_
          · exact ⟨by kernel_rfl, by kernel_rfl, rfl⟩
          refine wpG_cons (gval (.pointer (some ⟨b, 0, none⟩)) GN.refl fun w_ hJ hd => ?_) ?_
          · have e4 : vals 4 = _ := hd 4 (by decide) (by kernel_rfl)
            rw [e4]
            exact ⟨by kernel_rfl, by kernel_rfl, rfl⟩
          refine wpG_cons (gval (.pointer (some ⟨b, 0 + 2, none⟩)) GN.refl fun w_ hJ hd => ?_) ?_
          · have e5 : vals 5 = _ := hd 5 (by decide) (by kernel_rfl)
            rw [e5]
            exact ⟨by kernel_rfl, by kernel_rfl, rfl⟩
          refine wpG_cons (gop (Instr.loadAt 23 (.pointer (some ⟨b, 0 + 2, none⟩))) (.slice A1 0 c1) GN.refl fun w_ hJ hd => ?_) ?_
          · have e6 : vals 6 = _ := hd 6 (by decide) (by kernel_rfl)
            rw [e6]
            exact ⟨by kernel_rfl, by kernel_rfl, run_load1 (by kernel_rfl) (cell_GN hJ d2), rfl⟩
          refine wpG_cons (gval (.int .i64 0) GN.refl fun w_ hJ hd => ?_) ?_
          · have e7 : vals 7 = _ := hd 7 (by decide) (by kernel_rfl)
            rw [e7]
            exact ⟨by kernel_rfl, by kernel_rfl, rfl⟩
          refine wpG_cons (gval (.int .u64 0) GN.refl fun w_ hJ hd => ?_) ?_
          · have e8 : vals 8 = _ := hd 8 (by decide) (by kernel_rfl)
            rw [e8]
            exact ⟨by kernel_rfl, by kernel_rfl, rfl⟩
          refine wpG_cons (gval (.int .u64 0) GN.refl fun w_ hJ hd => ?_) ?_
          · have e9 : vals 9 = _ := hd 9 (by decide) (by kernel_rfl)
            rw [e9]
            exact ⟨by kernel_rfl, by kernel_rfl, rfl⟩
          refine wpG_cons (gval (.int .u64 (IntKind.u64.wrap (at_ + 0))) GN.refl fun w_ hJ hd => ?_) ?_
          · have e3 : vals 3 = _ := hd 3 (by decide) (by kernel_rfl)
            have e10 : vals 10 = _ := hd 10 (by decide) (by kernel_rfl)
            rw [e3, e10]
            exact ⟨by kernel_rfl, by kernel_rfl, rfl⟩
          refine wpG_cons (gval (.int .u64 (IntKind.u64.wrap (at_ + 0))) GN.refl fun w_ hJ hd => ?_) ?_
          · have e11 : vals 11 = _ := hd 11 (by decide) (by kernel_rfl)
            rw [e11]
            exact ⟨by kernel_rfl, by kernel_rfl, rfl⟩
          refine wpG_cons (gval (.bool true) GN.refl fun w_ hJ hd => ?_) wpG_nil
          · exact ⟨by kernel_rfl, by kernel_rfl, rfl⟩
        · intro vals w_ hJ hf
          have e0 : vals 0 = _ := hf 0 (by decide)
          have e1 : vals 1 = _ := hf 1 (by decide)
          have e2 : vals 2 = _ := hf 2 (by decide)
          have e3 : vals 3 = _ := hf 3 (by decide)
          have e4 : vals 4 = _ := hf 4 (by decide)
          have e5 : vals 5 = _ := hf 5 (by decide)
          have e6 : vals 6 = _ := hf 6 (by decide)
          have e7 : vals 7 = _ := hf 7 (by decide)
          have e8 : vals 8 = _ := hf 8 (by decide)
          have e9 : vals 9 = _ := hf 9 (by decide)
          have e10 : vals 10 = _ := hf 10 (by decide)
          have e11 : vals 11 = _ := hf 11 (by decide)
          have e12 : vals 12 = _ := hf 12 (by decide)
          have e13 : vals 13 = _ := hf 13 (by decide)
          simp only [fillG, Nat.zero_add, Nat.reduceAdd, e0, e1, e2, e3, e4, e5, e6, e7, e8, e9, e10, e11, e12, e13, Act.put, List.setIfInBounds_toArray, List.set_cons_succ, List.set_cons_zero]
          clear e0 e1 e2 e3 e4 e5 e6 e7 e8 e9 e10 e11 e12 e13 hf
          rw [show at_ + 0 = at_ by omega, e2]
          go_wp2
          go_ret2
          exact ⟨rfl, hJ⟩
  · have z : decide (n < 8) = false := decide_eq_false hq
    have hq' : n = 8 := by omega
    subst hq'
    rw [z]
    clear ho
    cases stop with
    | true =>
      go_wp2
      all_goals go_ret2
      all_goals exact ⟨rfl, GN.refl w⟩
    | false =>
      go_wp2
      all_goals go_ret2
      all_goals exact ⟨rfl, GN.refl w⟩
end
end Go.Proofs.YtblbgalpkodibaaDoor
