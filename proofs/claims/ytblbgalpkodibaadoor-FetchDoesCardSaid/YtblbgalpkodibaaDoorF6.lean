/- Layer 20: Take. -/
import Derived.Test.YtblbgalpkodibaaDoorFR
namespace Go.Proofs.YtblbgalpkodibaaDoor
open Go.RowKit Go.Shelf
attribute [local go_sem] Oper.semAt_some
theorem HP.und_co {p : Prop} {A : HP} (h : A.co) : (HP.und p A).co := fun ⟨_, ha⟩ => h ha
theorem HP.any_co {α : Sort _} {G : α → HP} (h : ∀ x, (G x).co) : (HP.any G).co := fun ⟨x, ha⟩ => h x ha
theorem HP.star_co {A B : HP} (h : A.co) (k : B.co) : (HP.star A B).co := by
  rintro w c ⟨c1, c2, h1, h2, _, rfl⟩ x hx
  rcases FP.all_add.1 hx with hx | hx
  · exact h h1 x hx
  · exact k h2 x hx
theorem HP.fr_co (b g : Nat) (F : Fr) : (HP.fr b g F).co := HP.any_co fun _ => HP.und_co (HP.star_co (HP.blk_co _ _ _) (HP.slw_co _ _ _ _))
theorem HP.gg_co (b : Nat) (c : St) : (HP.gg b c).co := HP.und_co (HP.blk_co _ _ _)
theorem CoB.fr {B b g : Nat} {F : Fr} {L : List HP} (h : CoB B L) : CoB B (HP.fr b g F :: L) := .cons (co_b (HP.fr_co _ _ _) B) h
theorem CoB.gg {B b : Nat} {c : St} {L : List HP} (h : CoB B L) : CoB B (HP.gg b c :: L) := .cons (co_b (HP.gg_co _ _) B) h
theorem heap_set_ne {w : World} {b o k : Nat} {v : Value} {u : Obj} (h : w.heap[k]? = some u) (hne : k ≠ b) : (w.setCell ⟨b, o, none⟩ v).heap[k]? = some u := ((grown_set' w b o v).block k (lt_of_heap' h) (fun e => by cases e; exact hne rfl)).trans h
theorem itsC_tail (q : List It) : (itsC q).drop (1 * 13) = itsC (q.drop 1) := by
  cases q with
  | nil => rfl
  | cons x q => exact itsC_drop x q
def zeroI : It := ⟨0, 0, 0, 0, 0, 0, 0, Z0⟩
def headI (F : Fr) : It := F.q.headD zeroI
theorem res13 {tmps : Array Value} {w : World} {ri rb : Nat} {x : It} {v : Bool} (h2 : tmps.getD 2 undef = .pointer (some ⟨ri, 0, none⟩)) (h3 : tmps.getD 3 undef = .pointer (some ⟨rb, 0, none⟩)) (hr : w.heap[ri]? = some (.cells (itl x).toArray 38 (0, 0))) (hb : w.heap[rb]? = some (.cells #[.bool v] 4 (0, 0))) :
    (results Tryd.f13 tmps).run Tryd.prog w = .ok (.tuple #[.agg (itl x).toArray, .bool v]) w := by
  have hl := run_loadVar_row (P := Tryd.prog) w ri 38 38 (itl x).toArray (0, 0) _ hr Tryd.underlying38 rfl (by kernel_rfl)
  have hc := (cells1 hb).1
  have h2' : tmps[2]?.getD undef = .pointer (some ⟨ri, 0, none⟩) := by simpa using h2
  have h3' : tmps[3]?.getD undef = .pointer (some ⟨rb, 0, none⟩) := by simpa using h3
  have ha : (isAgg 4).run Tryd.prog w = .ok false w := by kernel_rfl
  have hl4 : (loadVar 4 ⟨rb, 0, none⟩).run Tryd.prog w = .ok (.bool v) w := by
    simp only [loadVar, Sem.run_bind, ha, Result.andThen_ok, Bool.false_eq_true, if_false, run_load, hc]
  simp only [results, Tryd.results13]
  simp [Sem.run_bind, Result.andThen, h2', h3', asAddr, hl, hl4]
theorem run_tail (A : Option Addr) (m cap : Nat) (w : World) : (Instr.sliceAt 45 (.slice A (m + 1) cap) (some (.int .i64 1)) none none).run Tryd.prog w = .ok (.slice (if cap = 1 then A else A.map (·.add (1 * 13))) (m + 1 - 1) (cap - 1)) w := by
  have hu : Tryd.prog.underlying 45 = some (.slice (Tryd.prog.elem 45)) := by kernel_rfl
  have hs : (sizeOf (Tryd.prog.elem 45)).run Tryd.prog w = .ok 13 w := by kernel_rfl
  rw [run_sliceAt_slice w 45 _ _ _ _ hu, run_slice_l w 45 A (m + 1) cap hu .i64 1 (by omega) (by omega), hs]
  rfl
/-- At a function's end: the mark of a range over a function is taken. -/
theorem leaves_mark {w0 w : World} {D : Nat} {L : List HP} {f : Func} {tmps : Array Value} {R : Ending → World → Prop} (h : Heap w0 w (HP.obj D (.deferred (some [])) :: L))
    (k : ∀ w', Heap w0 w' L → ∃ v, (results f tmps).run Tryd.prog w' = .ok v w' ∧ R (.returned v) w') : LeavesInM Fence.wide 6 Tryd.prog f tmps R [{ target := .collected D, args := #[] }] .returning w := by
  obtain ⟨v, h1, h2⟩ := k _ (h.putObj (.deferred none)).tail
  exact ⟨by simp, .inl ⟨_, _, rfl, run_takeDeferred h.obj, v, h1, h2⟩⟩
section
variable {w0 w w' : World} {L : List HP} {b g : Nat} {F : Fr} {c : St}
set_option maxRecDepth 100000 in
set_option maxHeartbeats 4000000 in
theorem take_f0 (hL : CoB w.heap.size L) (h : Heap w0 w (HP.fr b g F :: L)) :
    Calls Tryd.prog 13 #[.pointer (some ⟨b, 0, none⟩)] w fun r w' => r = .returned (.tuple #[.agg (itl (headI F)).toArray, .bool (!F.q.isEmpty)]) ∧ Heap w0 w' (HP.fr b g (takeF F) :: L) := by
  obtain ⟨A, cap, hC, hh⟩ := h.fc
  have hI := hC.I
  obtain ⟨bx, hbx⟩ : ∃ bx, w.heap.size = bx := ⟨_, rfl⟩
  have hJ0 := ((((hh.new #[.pointer (some ⟨b, 0, none⟩)] 25).new ([.int .u64 0, .int .u32 0, .int .u32 0, .int .i64 0, .int .u64 0, .int .u64 0, .int .u64 0, .int .u64 0, .int .u64 0, .int .u64 0, .int .u64 0, .int .i64 0, .int .u64 0] : List Value).toArray 38).new ([.bool false] : List Value).toArray 4).new #[.pointer (some ⟨b, 0, none⟩)] 25)
  have hbl := hC.lt
  refine (callsIn_wide (n := 6)).1 ?_
  refine callsIn_of_wp_marks Tryd.func13 rfl trivial ?_ rfl
  simp only [Tryd.ntmps13, List.size_toArray, List.length_cons, List.length_nil, Nat.reduceAdd, Nat.reduceSub, Array.replicate_succ, Array.replicate_zero, List.push_toArray, List.append_toArray, List.nil_append, List.cons_append]
  refine (wpIn_wide (n := 6)).2 ?_
  go_wp2_with (go_at_call 16; refine (items_f _ _).mono ?_; rintro e w2 ⟨rfl, rfl⟩)
  simp only [World.size_alloc, hbx] at hJ0
  have hsz : w.heap.size ≤ (((((w.alloc (.cells #[.pointer (some ⟨b, 0, none⟩)] 25)).alloc (.cells #[.int .u64 0, .int .u32 0, .int .u32 0, .int .i64 0, .int .u64 0, .int .u64 0, .int .u64 0, .int .u64 0, .int .u64 0, .int .u64 0, .int .u64 0, .int .i64 0, .int .u64 0] 38)).alloc (.cells #[.bool false] 4)).alloc (.cells #[.pointer (some ⟨b, 0, none⟩)] 25))).heap.size := by simp; omega
  obtain ⟨ri, hri⟩ : ∃ ri, bx + 1 = ri := ⟨_, rfl⟩
  obtain ⟨rb, hrb⟩ : ∃ rb, ri + 1 = rb := ⟨_, rfl⟩
  obtain ⟨box, hbox⟩ : ∃ box, rb + 1 = box := ⟨_, rfl⟩
  rw [hri] at hJ0 ⊢
  rw [hrb] at hJ0 ⊢
  rw [hbox] at hJ0 ⊢
  generalize ((((w.alloc (.cells #[.pointer (some ⟨b, 0, none⟩)] 25)).alloc (.cells #[.int .u64 0, .int .u32 0, .int .u32 0, .int .i64 0, .int .u64 0, .int .u64 0, .int .u64 0, .int .u64 0, .int .u64 0, .int .u64 0, .int .u64 0, .int .i64 0, .int .u64 0] 38)).alloc (.cells #[.bool false] 4)).alloc (.cells #[.pointer (some ⟨b, 0, none⟩)] 25)) = W1 at hJ0 hsz ⊢
  have hL1 := hL.mono hsz
  unfold FB at hJ0
  have hLI : Heap w0 W1 (HP.blk box #[.pointer (some ⟨b, 0, none⟩)] 25 :: FB b g F (.slice A F.q.length cap) (HP.blk bx #[.pointer (some ⟨b, 0, none⟩)] 25 :: HP.blk ri ([.int .u64 0, .int .u32 0, .int .u32 0, .int .i64 0, .int .u64 0, .int .u64 0, .int .u64 0, .int .u64 0, .int .u64 0, .int .u64 0, .int .u64 0, .int .i64 0, .int .u64 0] : List Value).toArray 38 :: HP.blk rb ([.bool false] : List Value).toArray 4 :: L)) := Heap.sort (L1 := [_, _, _, _, _, _]) (L2 := [_, _, _, _, _, _]) hJ0 [0, 4, 5, 3, 2, 1] rfl rfl (by decide)
  have hbl1 := lt_of_heap' (Heap.heap hLI.tail)
  clear hJ0 hri hrb hbox hbx hbl hC hh hL hsz h
  refine range_items (γ := It) (fun _ => HP.blk bx #[.pointer (some ⟨b, 0, none⟩)] 25 :: HP.blk ri ([.int .u64 0, .int .u32 0, .int .u32 0, .int .i64 0, .int .u64 0, .int .u64 0, .int .u64 0, .int .u64 0, .int .u64 0, .int .u64 0, .int .u64 0, .int .i64 0, .int .u64 0] : List Value).toArray 38 :: HP.blk rb ([.bool false] : List Value).toArray 4 :: L) (fun pre => pre = []) (fun cd pre x => cd = .ret ∧ pre = [x]) (fun x => HP.blk ri (itl x).toArray 38 :: HP.blk rb #[.bool true] 4 :: HP.fr b g (takeF F) :: L) rfl hI rfl rfl rfl rfl rfl rfl (s := 4) (show 7 < 18 by decide) (show 4 < 18 by decide) (by decide)
    (fun _ => .blk (.blk (.blk hL1))) (fun _ => .blk (.blk (.fr hL1))) rfl hLI ?body ?done ?stop
  case body =>
    rintro l pre x kx W rfl hlt hkB hkx hB
    simp only [List.setIfInBounds_toArray, List.set_cons_succ, List.set_cons_zero]
    obtain ⟨m, hm⟩ : ∃ m, F.q.length = m + 1 := ⟨F.q.length - 1, by simp at hlt; omega⟩
    obtain ⟨A2, hA2⟩ : ∃ A2, (if cap = 1 then A else A.map (·.add (1 * 13))) = A2 := ⟨_, rfl⟩
    have HA2 := hide hA2
    unfold FB at hB
    rw [hm] at hB
    have hB : Heap w0 W (HP.blk bx #[.pointer (some ⟨b, 0, none⟩)] 25 :: HP.restB W1.heap.size W :: HP.blk ri ([.int .u64 0, .int .u32 0, .int .u32 0, .int .i64 0, .int .u64 0, .int .u64 0, .int .u64 0, .int .u64 0, .int .u64 0, .int .u64 0, .int .u64 0, .int .i64 0, .int .u64 0] : List Value).toArray 38 :: HP.blk rb ([.bool false] : List Value).toArray 4 :: HP.blk b (frv g F (.slice A (m + 1) cap)).toArray 72 :: HP.slw (.slice A (m + 1) cap) 13 (m + 1) (itsC F.q) :: L) := Heap.sort (L1 := [_, _, _, _, _, _]) (L2 := [_, _, _, _, _, _]) hB [3, 0, 4, 5, 1, 2] rfl rfl (by decide)
    clear hA2
    gi_wp2_with fail
    refine wpIn_region_E (fun w_ => W.heap.size ≤ w_.heap.size ∧ w_.heap[kx]? = some (.cells (itl x).toArray 38 (0, 0)) ∧ Heap w0 w_ (HP.blk bx #[.pointer (some ⟨b, 0, none⟩)] 25 :: HP.restB W1.heap.size W :: HP.blk ri ([.int .u64 0, .int .u32 0, .int .u32 0, .int .i64 0, .int .u64 0, .int .u64 0, .int .u64 0, .int .u64 0, .int .u64 0, .int .u64 0, .int .u64 0, .int .i64 0, .int .u64 0] : List Value).toArray 38 :: HP.blk rb ([.bool false] : List Value).toArray 4 :: HP.blk b (frv g F (.slice A (m + 1) cap)).toArray 72 :: HP.slw (.slice A (m + 1) cap) 13 (m + 1) (itsC F.q) :: L)) (fun _ _ => True) (fun k_ v_ w_ => match k_ with
        | 0 => v_ = .pointer (some ⟨b, 0, none⟩)
        | 1 => v_ = .pointer (some ⟨b, 0, none⟩)
        | 2 => v_ = .pointer (some ⟨b, 0, none⟩)
        | 3 => v_ = .pointer (some ⟨b, 5, none⟩)
        | 4 => v_ = .slice A (m + 1) cap
        | 5 => v_ = .slice A2 (m + 1 - 1) (cap - 1)
        | 6 => v_ = .pointer (some ⟨b, 0, none⟩)
        | _ => v_ = .pointer (some ⟨b, 5, none⟩)) fol (noDefer_of (by kernel_rfl)) (by rintro ⟨_, _, h_⟩; exact h_) (by kernel_rfl) ?_ ?_ (n := 8) rfl rfl rfl (by kernel_rfl) ?_ ?_
    · exact ⟨Nat.le_refl _, hkx, hB.drew⟩
    · intro k_ v_ w_ w2_ h1 hg
      split at h1 <;> exact h1
    · intro vals
      show wpG _ _ _ _ _ _ 0 (_ :: _) _
      refine wpG_cons (gop (Instr.loadAt 25 (.pointer (some ⟨bx, 0, none⟩))) (.pointer (some ⟨b, 0, none⟩)) (fun _ => trivial) fun w_ hJ hd => ?_) ?_
      · exact ⟨by kernel_rfl, by kernel_rfl, run_load1 (by kernel_rfl) (cells1 (Heap.heap hJ.2.2)).1, rfl⟩
      refine wpG_cons (gop (Instr.loadAt 25 (.pointer (some ⟨bx, 0, none⟩))) (.pointer (some ⟨b, 0, none⟩)) (fun _ => trivial) fun w_ hJ hd => ?_) ?_
      · exact ⟨by kernel_rfl, by kernel_rfl, run_load1 (by kernel_rfl) (cells1 (Heap.heap hJ.2.2)).1, rfl⟩
      refine wpG_cons (gval (.pointer (some ⟨b, 0, none⟩)) (fun _ => trivial) fun w_ hJ hd => ?_) ?_
      · have e1 : vals 1 = _ := hd 1 (by decide) (by kernel_rfl)
        rw [e1]
        exact ⟨by kernel_rfl, by kernel_rfl, rfl⟩
      refine wpG_cons (gval (.pointer (some ⟨b, 5, none⟩)) (fun _ => trivial) fun w_ hJ hd => ?_) ?_
      · have e2 : vals 2 = _ := hd 2 (by decide) (by kernel_rfl)
        rw [e2]
        exact ⟨by kernel_rfl, by kernel_rfl, rfl⟩
      refine wpG_cons (gop (Instr.loadAt 45 (.pointer (some ⟨b, 5, none⟩))) (.slice A (m + 1) cap) (fun _ => trivial) fun w_ hJ hd => ?_) ?_
      · have e3 : vals 3 = _ := hd 3 (by decide) (by kernel_rfl)
        rw [e3]
        exact ⟨by kernel_rfl, by kernel_rfl, run_load1 (by kernel_rfl) (cell_blk (Heap.heap (Heap.f5 hJ.2.2)) 5).1, rfl⟩
      refine wpG_cons (gop (Instr.sliceAt 45 (.slice A (m + 1) cap) (some (.int .i64 1)) none none) (.slice A2 (m + 1 - 1) (cap - 1)) (fun _ => trivial) fun w_ hJ hd => ?_) ?_
      · have e4 : vals 4 = _ := hd 4 (by decide) (by kernel_rfl)
        rw [e4]
        exact ⟨by kernel_rfl, by kernel_rfl, (run_tail A m cap w_).trans (by rw [unhide HA2]), rfl⟩
      refine wpG_cons (gval (.pointer (some ⟨b, 0, none⟩)) (fun _ => trivial) fun w_ hJ hd => ?_) ?_
      · have e0 : vals 0 = _ := hd 0 (by decide) (by kernel_rfl)
        rw [e0]
        exact ⟨by kernel_rfl, by kernel_rfl, rfl⟩
      refine wpG_cons (gval (.pointer (some ⟨b, 5, none⟩)) (fun _ => trivial) fun w_ hJ hd => ?_) wpG_nil
      · have e6 : vals 6 = _ := hd 6 (by decide) (by kernel_rfl)
        rw [e6]
        exact ⟨by kernel_rfl, by kernel_rfl, rfl⟩
    · intro vals w_ hJ hf
      have e0 : vals 0 = _ := hf 0 (by decide)
      have e1 : vals 1 = _ := hf 1 (by decide)
      have e2 : vals 2 = _ := hf 2 (by decide)
      have e3 : vals 3 = _ := hf 3 (by decide)
      have e4 : vals 4 = _ := hf 4 (by decide)
      have e5 : vals 5 = _ := hf 5 (by decide)
      have e6 : vals 6 = _ := hf 6 (by decide)
      have e7 : vals 7 = _ := hf 7 (by decide)
      show Oper.wp _ _ (fillG vals 0 (_ :: _ :: _ :: _ :: _ :: _ :: _ :: _ :: []) _) _ _ _
      simp only [fillG, Nat.zero_add, Nat.reduceAdd, e0, e1, e2, e3, e4, e5, e6, e7, Act.put, List.setIfInBounds_toArray, List.set_cons_succ, List.set_cons_zero]
      clear e0 e1 e2 e3 e4 e5 e6 e7 hf
      obtain ⟨hz, hkx, hJ⟩ := hJ
      have b5 := cell_blk (Heap.heap (Heap.f5 hJ)) 5
      refine wp_last_skip (w' := w_.setCell ⟨b, 5, none⟩ (.slice A2 (m + 1 - 1) (cap - 1))) (m := Instr.storeAt 45 (.pointer (some ⟨b, 5, none⟩)) (.slice A2 (m + 1 - 1) (cap - 1))) (by kernel_rfl) (run_store1 (by kernel_rfl) rfl rfl b5.1 b5.2) ?_
      show Exit.then _ _ Exit.normal (Act.put ⟨_, _⟩ none _) _
      simp only [Act.put]
      have hS := (Heap.slw (Heap.f6 hJ)).tail (k := 1) (by omega)
      rw [unhide HA2] at hS
      have hJ3 := ((Heap.f6 hJ).cutw hS (by
        rw [← unhide HA2]
        cases A with
        | none => exact .inl (by simp [sblk])
        | some a => obtain ⟨a1, a2, a3⟩ := a; exact .inl (by split <;> simp [sblk, Addr.add]))).f6.setl 5 (.slice A2 (m + 1 - 1) (cap - 1))
      have hJ3 : Heap w0 (w_.setCell ⟨b, 5, none⟩ (.slice A2 (m + 1 - 1) (cap - 1))) (HP.blk ri ([.int .u64 0, .int .u32 0, .int .u32 0, .int .i64 0, .int .u64 0, .int .u64 0, .int .u64 0, .int .u64 0, .int .u64 0, .int .u64 0, .int .u64 0, .int .i64 0, .int .u64 0] : List Value).toArray 38 :: HP.blk rb ([.bool false] : List Value).toArray 4 :: HP.blk b (frv g F (.slice A2 (m + 1 - 1) (cap - 1))).toArray 72 :: HP.slw (.slice A2 (m + 1 - 1) (cap - 1)) 13 (m + 1 - 1) ((itsC F.q).drop (1 * 13)) :: HP.restB W1.heap.size W :: HP.blk bx #[.pointer (some ⟨b, 0, none⟩)] 25 :: L) := Heap.sort (L1 := [_, _, _, _, _, _]) (L2 := [_, _, _, _, _, _]) hJ3 [4, 5, 0, 1, 3, 2] rfl rfl (by decide)
      have hkx := heap_set_ne (b := b) (o := 5) (v := (.slice A2 (m + 1 - 1) (cap - 1))) hkx (by omega)
      clear b5 hS hJ hB HA2
      rw [← size_setCell w_ ⟨b, 5, none⟩ (.slice A2 (m + 1 - 1) (cap - 1))] at hz
      generalize w_.setCell ⟨b, 5, none⟩ (.slice A2 (m + 1 - 1) (cap - 1)) = W3 at hJ3 hz hkx ⊢
      have hRk := range_blk hkx 0 13 (itl x) rfl
      have hTr := there_blk (Heap.heap hJ3) (o := 0) (n := 13) (by decide)
      have hJ4 := hJ3.sets (itl x) 0
      rw [setL_all _ _ (by rfl)] at hJ4
      have H4 := hide hJ4
      have hrl := lt_of_heap' (Heap.heap hJ3)
      have hkl := lt_of_heap' hkx
      have hbl3 := lt_of_heap' (Heap.heap hJ3.f2)
      have Hk := hide hRk
      have Ht := hide hTr
      clear hJ4 hJ3 hRk hTr hkx
      gi_wp2_with (refine listIn_of rfl (by intro c hc; cases hc) fun K_ hK_ => ?_; have HK_ := hide hK_; clear hK_; refine wp_load_mid 38 (.tmp 4) rfl kx 0 rfl (itl x) _ (unhide Hk) Tryd.underlying38 rfl (by kernel_rfl) ?_)
      refine unhide HK_ _ _ ?_
      refine listIn_of rfl (by intro c hc; cases hc) fun K_ hK_ => wp_store_mid 38 (.tmp 2) (.tmp 16) rfl ri 0 (itl x).toArray rfl rfl (unhide Ht) (by kernel_rfl) (all_oneCell_toArray (itl_cell x)) (hK_ _ _ ?_)
      have hJ4 := unhide H4
      clear H4 Ht Hk HK_
      change wpListIn _ _ _ _ _ _ _ (W3.setCells ri 0 (itl x))
      rw [← size_setCells (itl x) W3 ri 0] at hz
      generalize W3.setCells ri 0 (itl x) = W4 at hJ4 hz ⊢
      obtain ⟨r0, r0f⟩ := cell_blk (Heap.heap hJ4.f2) 0
      have r0 : W4.cell? ⟨rb, 0, none⟩ = some (.bool false) := r0
      have hrl := lt_of_heap' (Heap.heap hJ4)
      have hrbl := lt_of_heap' (Heap.heap hJ4.f2)
      have H5 := hide (hJ4.f2.setl 0 (.bool true))
      clear hJ4
      gi_wp2
      have h5 := unhide H5
      refine ⟨by rw [size_setCell]; exact hz, x, ⟨rfl, rfl⟩, ?_⟩
      have e1 : (takeF F).q.length = m + 1 - 1 := by show (F.q.drop 1).length = _; rw [List.length_drop, hm]
      have h6 := Heap.tail (Heap.sort (L1 := [_, _, _, _, _, _]) (L2 := [_, _, _, _, _, _]) h5 [5, 2, 3, 4, 1, 0] rfl rfl (by decide))
      rw [show (itsC F.q).drop (1 * 13) = itsC (takeF F).q from itsC_tail F.q, ← e1] at h6
      exact (Heap.sort (L1 := [_, _, _, _]) (L2 := [_, _, _, _]) (Heap.fr.2 ⟨_, hI.take, h6⟩) [1, 2, 3, 0] rfl rfl (by decide))
  case done =>
    rintro D W hq hI0
    unfold FB at hI0
    have hI0 : Heap w0 W (HP.blk ri ([.int .u64 0, .int .u32 0, .int .u32 0, .int .i64 0, .int .u64 0, .int .u64 0, .int .u64 0, .int .u64 0, .int .u64 0, .int .u64 0, .int .u64 0, .int .i64 0, .int .u64 0] : List Value).toArray 38 :: HP.obj D (.deferred (some [])) :: HP.blk b _ 72 :: HP.slw _ 13 _ _ :: HP.blk bx _ 25 :: HP.blk rb ([.bool false] : List Value).toArray 4 :: L) := Heap.sort (L1 := [_, _, _, _, _, _]) (L2 := [_, _, _, _, _, _]) hI0 [4, 0, 1, 2, 3, 5] rfl rfl (by decide)
    have hTr : W.there ri 0 (#[.int .u64 0, .int .u32 0, .int .u32 0, .int .i64 0, .int .u64 0, .int .u64 0, .int .u64 0, .int .u64 0, .int .u64 0, .int .u64 0, .int .u64 0, .int .i64 0, .int .u64 0] : Array Value).size := there_blk (Heap.heap hI0) (o := 0) (n := 13) (by decide)
    have hJ4 := hI0.sets [.int .u64 0, .int .u32 0, .int .u32 0, .int .i64 0, .int .u64 0, .int .u64 0, .int .u64 0, .int .u64 0, .int .u64 0, .int .u64 0, .int .u64 0, .int .i64 0, .int .u64 0] 0
    rw [setL_all _ _ (by rfl)] at hJ4
    have hrl := lt_of_heap' (Heap.heap hI0)
    have HJ4 := hide hJ4
    have Ht := hide hTr
    clear hI0 hTr hJ4
    go_wp2_with (refine wpList_store_mid rfl 38 (.tmp 2) (.tmp 17) rfl ri 0 #[.int .u64 0, .int .u32 0, .int .u32 0, .int .i64 0, .int .u64 0, .int .u64 0, .int .u64 0, .int .u64 0, .int .u64 0, .int .u64 0, .int .u64 0, .int .i64 0, .int .u64 0] rfl rfl ?_ (by kernel_rfl) (by kernel_rfl) ?_
                 rotate_left
                 refine unhide ?_)
    rotate_left
    · exact unhide Ht
    have hJ4 := unhide HJ4
    change Hid (wpList _ _ _ _ _ (W.setCells ri 0 [.int .u64 0, .int .u32 0, .int .u32 0, .int .i64 0, .int .u64 0, .int .u64 0, .int .u64 0, .int .u64 0, .int .u64 0, .int .u64 0, .int .u64 0, .int .i64 0, .int .u64 0]))
    generalize W.setCells ri 0 [.int .u64 0, .int .u32 0, .int .u32 0, .int .i64 0, .int .u64 0, .int .u64 0, .int .u64 0, .int .u64 0, .int .u64 0, .int .u64 0, .int .u64 0, .int .i64 0, .int .u64 0] = W4 at hJ4 ⊢
    clear HJ4 Ht
    obtain ⟨r0, r0f⟩ := cell_blk (Heap.heap hJ4.f6) 0
    have r0 : W4.cell? ⟨rb, 0, none⟩ = some (.bool false) := r0
    have hrbl := lt_of_heap' (Heap.heap hJ4.f6)
    have H5 := hide (hJ4.f6.setl 0 (.bool false))
    clear hJ4
    refine hide ?_
    go_wp2
    have e1 : headI F = zeroI := by unfold headI; rw [hq]; rfl
    have e2 : takeF F = F := by
      obtain ⟨a1, a2, a3, a4, a5⟩ := F
      simp only at hq
      subst hq
      rfl
    refine leaves_mark (unhide H5).f3 fun w' hJ => ?_
    refine ⟨_, res13 rfl rfl (x := zeroI) (v := false) (Heap.heap hJ.f2) (Heap.heap hJ), ?_⟩
    rw [e1, e2, hq]
    exact ⟨rfl, Heap.fr.2 ⟨_, hI, Heap.dropL (M := [_, _, _]) (Heap.sort (L1 := [_, _, _, _, _]) (L2 := [_, _, _, _, _]) hJ [0, 1, 4, 2, 3] rfl rfl (by decide))⟩⟩
  case stop =>
    rintro D cd pre x W ⟨rfl, rfl⟩ hp hI0
    obtain ⟨q2, hq⟩ : ∃ q2, F.q = x :: q2 := by
      obtain ⟨t, ht⟩ := hp
      exact ⟨t, by rw [← ht]; rfl⟩
    gi_wp2
    refine leaves_mark hI0 fun w' hJ => ?_
    refine ⟨_, res13 rfl rfl (x := x) (v := true) (Heap.heap hJ) (Heap.heap hJ.f2), ?_⟩
    have e1 : headI F = x := by unfold headI; rw [hq]; rfl
    rw [e1, hq]
    exact ⟨rfl, hJ.tail.tail⟩
theorem take_f (h : Heap w0 w (HP.fr b g F :: L)) :
    Calls Tryd.prog 13 #[.pointer (some ⟨b, 0, none⟩)] w fun r w' => r = .returned (.tuple #[.agg (itl (headI F)).toArray, .bool (!F.q.isEmpty)]) ∧ Heap w0 w' (HP.fr b g (takeF F) :: L) := by
  obtain ⟨P, hP, h1, back⟩ := Heap.pinL (Y := [HP.fr b g F]) h
  exact (take_f0 (.cons hP .nil) h1).mono fun r w' ⟨hr, hh⟩ => ⟨hr, back (Z := [HP.fr b g (takeF F)]) hh⟩
end
end Go.Proofs.YtblbgalpkodibaaDoor
