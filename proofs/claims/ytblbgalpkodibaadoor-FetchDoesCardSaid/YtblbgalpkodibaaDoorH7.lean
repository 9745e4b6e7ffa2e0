/- Layer 20: items, as the law asks for them. -/
import Derived.Test.YtblbgalpkodibaaDoorH6
import Derived.Test.YtblbgalpkodibaaDoorFM
namespace Go.Proofs.YtblbgalpkodibaaDoor
open Go.RowKit Go.Shelf
attribute [local go_sem] Oper.semAt_some
theorem run_geq3 {k n : Nat} (h : k < n) (w : World) : (binOp .geq 3 (.int .i64 (k : Nat)) (.int .i64 (n : Nat))).run Tryd.prog w = .ok (.bool false) w := by
  have e : (binOp .geq 3 (.int .i64 (k : Nat)) (.int .i64 (n : Nat))).run Tryd.prog w = .ok (.bool (decide ((n : Int) ≤ (k : Int)))) w := by kernel_rfl
  rw [e, decide_eq_false (by omega)]
theorem res28 {tmps : Array Value} {w : World} {r : Nat} {v : Bool} (h2 : tmps.getD 6 undef = .pointer (some ⟨r, 0, none⟩)) (hb : w.heap[r]? = some (.cells #[.bool v] 4 (0, 0))) :
    (results Tryd.f28 tmps).run Tryd.prog w = .ok (.bool v) w := by
  have hc := (cells1 hb).1
  have h2' : tmps[6]?.getD undef = .pointer (some ⟨r, 0, none⟩) := by simpa using h2
  have ha : (isAgg 4).run Tryd.prog w = .ok false w := by kernel_rfl
  have hl4 : (loadVar 4 ⟨r, 0, none⟩).run Tryd.prog w = .ok (.bool v) w := by
    simp only [loadVar, Sem.run_bind, ha, Result.andThen_ok, Bool.false_eq_true, if_false, run_load, hc]
  simp only [results, Tryd.results28]
  simp [h2', asAddr, hl4]
section
variable {w0 w w' : World} {L : List HP} {b g : Nat} {F : Fr} {c : St}
set_option maxRecDepth 100000 in
set_option maxHeartbeats 1000000 in
theorem told_f {Aq : Option Addr} {cap : Nat} (stop : Int) (h : Heap w0 w (HP.fr b g F :: HP.slw (.slice Aq F.q.length cap) 13 F.q.length (itsC F.q) :: L)) :
    Calls Tryd.prog 28 #[.pointer (some ⟨b, 0, none⟩), .slice Aq F.q.length cap, .int .i64 stop] w fun r w' => r = .returned (.bool true) ∧ Heap w0 w' (HP.fr b g F :: HP.slw (.slice Aq F.q.length cap) 13 F.q.length (itsC F.q) :: L) := by
  obtain ⟨A1, cap1, hC, hh⟩ := h.fc
  have hI := hC.I
  have h8 := hI.len
  have J := ((((hh.new ([.slice Aq F.q.length cap] : List Value).toArray 67).new ([.int .i64 stop] : List Value).toArray 3).new ([.bool false] : List Value).toArray 4).new ([.int .i64 0] : List Value).toArray 3).new #[.pointer (some ⟨b, 0, none⟩)] 25
  obtain ⟨kq, hkq⟩ : ∃ k, w.heap.size = k := ⟨_, rfl⟩
  simp only [World.size_alloc, hkq] at J
  clear hC hh
  refine (callsIn_wide (n := 6)).1 ?_
  refine callsIn_of_wp_marks Tryd.func28 rfl trivial ?_ rfl
  simp only [Tryd.ntmps28, List.size_toArray, List.length_cons, List.length_nil, Nat.reduceAdd, Nat.reduceSub, Array.replicate_succ, Array.replicate_zero, List.push_toArray, List.append_toArray, List.nil_append, List.cons_append]
  refine (wpIn_wide (n := 6)).2 ?_
  go_wp2_with fail
  refine (items_f _ _).mono ?_
  rintro e w2 ⟨rfl, rfl⟩
  simp only [World.size_alloc, hkq] at J ⊢
  go_wp2_with fail
  obtain ⟨ks, hks⟩ : ∃ k, kq + 1 = k := ⟨_, rfl⟩
  obtain ⟨kr, hkr⟩ : ∃ k, ks + 1 = k := ⟨_, rfl⟩
  obtain ⟨kn, hkn⟩ : ∃ k, kr + 1 = k := ⟨_, rfl⟩
  obtain ⟨box, hbox⟩ : ∃ k, kn + 1 = k := ⟨_, rfl⟩
  rw [hks] at J ⊢
  rw [hkr] at J ⊢
  rw [hkn] at J ⊢
  rw [hbox] at J ⊢
  generalize (((((w.alloc (.cells ([.slice Aq F.q.length cap] : List Value).toArray 67)).alloc (.cells ([.int .i64 stop] : List Value).toArray 3)).alloc (.cells ([.bool false] : List Value).toArray 4)).alloc (.cells ([.int .i64 0] : List Value).toArray 3)).alloc (.cells #[.pointer (some ⟨b, 0, none⟩)] 25)) = W1 at J ⊢
  unfold FB at J
  have J := Heap.sort (L1 := [_, _, _, _, _, _, _, _]) (L2 := [_, _, _, _, _, _, _, _]) (M := L) J [0, 5, 6, 1, 2, 4, 3, 7] rfl rfl (by decide)
  obtain ⟨P, hP, J2, back⟩ := Heap.pinL (Y := [_, _, _, _, _, _, _, _]) J
  have J2 : Heap w0 W1 (HP.blk box #[.pointer (some ⟨b, 0, none⟩)] 25 :: FB b g F (.slice A1 F.q.length cap1) ([HP.blk kn ([.int .i64 ((([] : List It).length : Int) : Int)] : List Value).toArray 3, HP.blk kr ([.bool false] : List Value).toArray 4, HP.blk kq ([.slice Aq F.q.length cap] : List Value).toArray 67, HP.blk ks ([.int .i64 stop] : List Value).toArray 3, HP.slw (.slice Aq F.q.length cap) 13 F.q.length (itsC F.q), P])) := J2
  have hne1 : ks ≠ kn := by omega
  have hne2 : kn ≠ ks := by omega
  have hne3 : kr ≠ kn := by omega
  have hne4 : kn ≠ kr := by omega
  clear J hks hkr hkn hbox hkq h
  refine range_itemsM (γ := Bool) (fun pre => [HP.blk kn ([.int .i64 ((pre.length : Int) : Int)] : List Value).toArray 3, HP.blk kr ([.bool false] : List Value).toArray 4, HP.blk kq ([.slice Aq F.q.length cap] : List Value).toArray 67, HP.blk ks ([.int .i64 stop] : List Value).toArray 3, HP.slw (.slice Aq F.q.length cap) 13 F.q.length (itsC F.q), P]) (fun _ => True) (fun cd pre v => cd = .ret ∧ (v = true ∨ ¬ (pre <+: F.q))) (fun v => FB b g F (.slice A1 F.q.length cap1) [HP.blk kr ([.bool v] : List Value).toArray 4, HP.slw (.slice Aq F.q.length cap) 13 F.q.length (itsC F.q), P]) rfl hI rfl rfl rfl rfl rfl rfl (s := 8) (show 11 < 34 by decide) (show 8 < 34 by decide) (by decide)
    (fun _ => .blk (.blk (.blk (.blk (.slw (.cons hP .nil)))))) (fun _ => (CoB.blk (.slw (.cons hP .nil))).fb) trivial J2 ?body ?done ?stop
  case body =>
    rintro l pre x kx W2 _ hkn hx hkB hkx hB
    simp only [List.setIfInBounds_toArray, List.set_cons_succ, List.set_cons_zero]
    obtain ⟨y, hy⟩ : ∃ y, F.q[pre.length]? = some y := ⟨_, List.getElem?_eq_getElem hkn⟩
    have hyI := hI.all y (List.mem_of_getElem? hy)
    unfold FB at hB
    obtain ⟨g1, o1, cap3, hv1, _⟩ := (hB.nth 7 rfl).slw.addr (by omega)
    obtain ⟨hA, _⟩ : Aq = some ⟨g1, o1, none⟩ ∧ True := by
      injection hv1 with h1 _ _
      exact ⟨h1, trivial⟩
    subst hA
    have Hn0 : Hid (W2.cell? ⟨kn, 0, none⟩ = some (.int .i64 (pre.length : Nat))) := hide (cell_blk (Heap.heap (hB.nth 3 rfl)) 0).1
    have Hq0 : Hid (W2.cell? ⟨kq, 0, none⟩ = some (.slice (some ⟨g1, o1, none⟩) F.q.length cap)) := hide (cell_blk (Heap.heap (hB.nth 5 rfl)) 0).1
    have Hkx := hide hkx
    have HSl := hide (hB.nth 7 rfl).slw
    have Hy := hide hy
    have HB := hide hB
    clear hv1 hkx hy hB J2
    by_cases hxy : itl x = itl y
    · skip
      have HSm : Hid (∀ w_, Calls Tryd.prog 24 #[.agg (itl x).toArray, .agg (itl y).toArray] w_ fun r w' => r = .returned (.bool true) ∧ GN w_ w') := hide fun w_ => (same_g hx hyI w_).mono fun r w' ⟨⟨v, h1, h2⟩, h3⟩ => ⟨by rw [h1]; cases v <;> simp_all, h3⟩
      clear hx hyI
      gi_wp2_with fail
      refine wpIn_region_E (fun w_ => GN W2 w_) GN (fun k_ v_ w_ => match k_ with
          | 0 => v_ = .int .i64 (pre.length : Nat)
          | 1 => v_ = .slice (some ⟨g1, o1, none⟩) F.q.length cap
          | 2 => v_ = .int .i64 (F.q.length : Nat)
          | 3 => v_ = .bool false
          | 4 => v_ = .bool false
          | 5 => v_ = .agg (itl x).toArray
          | 6 => v_ = .slice (some ⟨g1, o1, none⟩) F.q.length cap
          | 7 => v_ = .int .i64 (pre.length : Nat)
          | 8 => v_ = .pointer (some ⟨g1, o1 + pre.length * 13, none⟩)
          | 9 => v_ = .agg (itl y).toArray
          | 10 => v_ = .bool true
          | _ => v_ = .bool false) fol (noDefer_of (by kernel_rfl)) (by rintro ⟨_, _, h_⟩; exact h_) (by kernel_rfl) ?_ ?_ (n := 12) rfl rfl rfl (by kernel_rfl) ?_ ?_
      · exact (GN.refl W2).drew
      · intro k_ v_ w_ w2_ h1 hg
        split at h1 <;> exact h1
      · intro vals
        show wpG _ _ _ _ _ _ 0 (_ :: _) _
        refine wpG_cons (gop (Instr.loadAt 3 (.pointer (some ⟨kn, 0, none⟩))) (.int .i64 (pre.length : Nat)) GN.refl fun w_ hJ hd => ?_) ?_
        · exact ⟨by kernel_rfl, by kernel_rfl, run_load1 (by kernel_rfl) (cell_GN hJ (unhide Hn0)), rfl⟩
        refine wpG_cons (gop (Instr.loadAt 67 (.pointer (some ⟨kq, 0, none⟩))) (.slice (some ⟨g1, o1, none⟩) F.q.length cap) GN.refl fun w_ hJ hd => ?_) ?_
        · exact ⟨by kernel_rfl, by kernel_rfl, run_load1 (by kernel_rfl) (cell_GN hJ (unhide Hq0)), rfl⟩
        refine wpG_cons (gval (.int .i64 (F.q.length : Nat)) GN.refl fun w_ hJ hd => ?_) ?_
        · have e1 : vals 1 = _ := hd 1 (by decide) (by kernel_rfl)
          rw [e1]
          exact ⟨by kernel_rfl, by kernel_rfl, rfl⟩
        refine wpG_cons (gop (binOp .geq 3 (.int .i64 (pre.length : Nat)) (.int .i64 (F.q.length : Nat))) (.bool false) GN.refl fun w_ hJ hd => ?_) ?_
        · have e0 : vals 0 = _ := hd 0 (by decide) (by kernel_rfl)
          have e2 : vals 2 = _ := hd 2 (by decide) (by kernel_rfl)
          rw [e0, e2]
          exact ⟨by kernel_rfl, by kernel_rfl, run_geq3 hkn w_, rfl⟩
        refine wpG_cons (gval (.bool false) GN.refl fun w_ hJ hd => ?_) ?_
        · have e3 : vals 3 = _ := hd 3 (by decide) (by kernel_rfl)
          rw [e3]
          exact ⟨by kernel_rfl, by kernel_rfl, rfl⟩
        refine wpG_cons (gop (Instr.loadAt 38 (.pointer (some ⟨kx, 0, none⟩))) (.agg (itl x).toArray) GN.refl fun w_ hJ hd => ?_) ?_
        · have e4 : vals 4 = _ := hd 4 (by decide) (by kernel_rfl)
          rw [e4]
          exact ⟨by kernel_rfl, by kernel_rfl, run_loadAt_mid w_ kx 0 38 (itl x) _ (range_blk (hJ.heap (unhide Hkx)) 0 13 _ rfl) Tryd.underlying38 rfl (by kernel_rfl), rfl⟩
        refine wpG_cons (gop (Instr.loadAt 67 (.pointer (some ⟨kq, 0, none⟩))) (.slice (some ⟨g1, o1, none⟩) F.q.length cap) GN.refl fun w_ hJ hd => ?_) ?_
        · have e4 : vals 4 = _ := hd 4 (by decide) (by kernel_rfl)
          rw [e4]
          exact ⟨by kernel_rfl, by kernel_rfl, run_load1 (by kernel_rfl) (cell_GN hJ (unhide Hq0)), rfl⟩
        refine wpG_cons (gop (Instr.loadAt 3 (.pointer (some ⟨kn, 0, none⟩))) (.int .i64 (pre.length : Nat)) GN.refl fun w_ hJ hd => ?_) ?_
        · have e4 : vals 4 = _ := hd 4 (by decide) (by kernel_rfl)
          rw [e4]
          exact ⟨by kernel_rfl, by kernel_rfl, run_load1 (by kernel_rfl) (cell_GN hJ (unhide Hn0)), rfl⟩
        refine wpG_cons (gop (Instr.indexAt 67 (.slice (some ⟨g1, o1, none⟩) F.q.length cap) (.int .i64 (pre.length : Nat))) (.pointer (some ⟨g1, o1 + pre.length * 13, none⟩)) GN.refl fun w_ hJ hd => ?_) ?_
        · have e6 : vals 6 = _ := hd 6 (by decide) (by kernel_rfl)
          have e7 : vals 7 = _ := hd 7 (by decide) (by kernel_rfl)
          have e4 : vals 4 = _ := hd 4 (by decide) (by kernel_rfl)
          rw [e6, e7, e4]
          exact ⟨by kernel_rfl, by kernel_rfl, run_ixat 67 61 13 Tryd.underlying67 (by kernel_rfl) g1 o1 F.q.length cap pre.length hkn w_, rfl⟩
        refine wpG_cons (gop (Instr.loadAt 61 (.pointer (some ⟨g1, o1 + pre.length * 13, none⟩))) (.agg (itl y).toArray) GN.refl fun w_ hJ hd => ?_) ?_
        · have e8 : vals 8 = _ := hd 8 (by decide) (by kernel_rfl)
          have e4 : vals 4 = _ := hd 4 (by decide) (by kernel_rfl)
          rw [e8, e4]
          exact ⟨by kernel_rfl, by kernel_rfl, run_loadAt_mid w_ g1 (o1 + pre.length * 13) 61 (itl y) _ (item_at ((unhide HSl).gn hJ) (unhide Hy)) Tryd.underlying61 rfl (by kernel_rfl), rfl⟩
        refine wpG_cons (gcall 24 #[.agg (itl x).toArray, .agg (itl y).toArray] fun w_ hJ hd => ?_) ?_
        · have e5 : vals 5 = _ := hd 5 (by decide) (by kernel_rfl)
          have e9 : vals 9 = _ := hd 9 (by decide) (by kernel_rfl)
          have e4 : vals 4 = _ := hd 4 (by decide) (by kernel_rfl)
          rw [e5, e9, e4]
          exact ⟨by kernel_rfl, by kernel_rfl, (unhide HSm w_).mono fun e w2 ⟨he, hg⟩ => ⟨_, he, GN.trans hJ hg, hg, rfl⟩⟩
        refine wpG_cons (gval (.bool false) GN.refl fun w_ hJ hd => ?_) wpG_nil
        · have e10 : vals 10 = _ := hd 10 (by decide) (by kernel_rfl)
          have e4 : vals 4 = _ := hd 4 (by decide) (by kernel_rfl)
          rw [e10, e4]
          exact ⟨by kernel_rfl, by kernel_rfl, rfl⟩
      · intro vals w_ hJ hf
        have e0 : vals 0 = _ := hf 0 (by decide)
        have e1 : vals 1 = _ := hf 1 (by decide)
        have e2 : vals 2 = _ := hf 2 (by decide)
        have e3 : vals 3 = _ := hf 3 (by decide)
        have e4 : vals 4 = _ := hf 4 (by decide)
        have e5 : vals 5 = _ := hf 5 (by decide)
        have e6 : vals 6 = _ := hf 6 (by decide)
        have e7 : vals 7 = _ := hf 7 (by decide)
        have e8 : vals 8 = _ := hf 8 (by decide)
        have e9 : vals 9 = _ := hf 9 (by decide)
        have e10 : vals 10 = _ := hf 10 (by decide)
        have e11 : vals 11 = _ := hf 11 (by decide)
        show Oper.wp _ _ (fillG vals 0 (_ :: _ :: _ :: _ :: _ :: _ :: _ :: _ :: _ :: _ :: _ :: _ :: []) _) _ _ _
        simp only [fillG, Nat.zero_add, Nat.reduceAdd, e0, e1, e2, e3, e4, e5, e6, e7, e8, e9, e10, e11, Act.put, List.setIfInBounds_toArray, List.set_cons_succ, List.set_cons_zero]
        clear e0 e1 e2 e3 e4 e5 e6 e7 e8 e9 e10 e11 hf
        have h9 := (unhide HB).grown hJ
        have hz9 := hJ.size
        show Oper.wp _ (Oper.mk (some 24) _ _ _ _ _) _ _ _ _
        refine wp_last_value (v := .bool false) (w' := w_) (by kernel_rfl) ?_
        show Exit.then _ _ Exit.normal (Act.put ⟨_, _⟩ (some 24) _) _
        simp only [Act.put, List.setIfInBounds_toArray, List.set_cons_succ, List.set_cons_zero]
        clear hJ Hn0 Hq0 Hkx HSl HSm HB
        have HB := hide h9
        clear h9
        have n0 : w_.cell? ⟨kn, 0, none⟩ = some (.int .i64 (pre.length : Nat)) := (cell_blk (Heap.heap ((unhide HB).nth 3 rfl)) 0).1
        have n0f := (cell_blk (Heap.heap ((unhide HB).nth 3 rfl)) 0).2
        have hnl := lt_of_heap' (Heap.heap ((unhide HB).nth 3 rfl))
        have s0 : w_.cell? ⟨ks, 0, none⟩ = some (.int .i64 stop) := (cell_blk (Heap.heap ((unhide HB).nth 6 rfl)) 0).1
        have hsl := lt_of_heap' (Heap.heap ((unhide HB).nth 6 rfl))
        have r0 : w_.cell? ⟨kr, 0, none⟩ = some (.bool false) := (cell_blk (Heap.heap ((unhide HB).nth 4 rfl)) 0).1
        have r0f := (cell_blk (Heap.heap ((unhide HB).nth 4 rfl)) 0).2
        have hrl := lt_of_heap' (Heap.heap ((unhide HB).nth 4 rfl))
        have h5 := ((unhide HB).nth 3 rfl).setl 0 (.int .i64 ((pre.length : Int) + 1))
        by_cases hst : (pre.length : Int) + 1 = stop
        · have h6 := (h5.nth 4 rfl).setl 0 (.bool true)
          have H6 := hide h6
          clear h5 h6
          subst hst
          gi_wp2
          refine ⟨by rw [size_setCell, size_setCell]; exact hz9, true, ⟨rfl, .inl rfl⟩, ?_⟩
          exact (Heap.sort (L1 := [_, _, _, _, _, _, _, _, _]) (L2 := [_, _, _, _, _, _, _, _, _]) (M := []) (unhide H6) [1, 5, 6, 2, 3, 4, 0, 7, 8] rfl rfl (by decide)).tail.tail.tail
        · have z : ((pre.length : Int) + 1 == stop) = false := beq_eq_false_iff_ne.2 hst
          have H5 := hide h5
          clear h5
          gi_wp2
          refine ⟨by rw [size_setCell]; exact hz9, trivial, ?_⟩
          unfold FB
          show Heap w0 _ (_ :: _ :: _ :: HP.blk kn ([.int .i64 ((pre ++ [x]).length : Int)] : List Value).toArray 3 :: _)
          rw [show (((pre ++ [x]).length : Nat) : Int) = (pre.length : Int) + 1 by simp]
          exact Heap.sort (L1 := [_, _, _, _, _, _, _, _, _]) (L2 := [_, _, _, _, _, _, _, _, _]) (M := []) (unhide H5) [1, 2, 3, 0, 4, 5, 6, 7, 8] rfl rfl (by decide)
    · skip
      have HSm : Hid (∀ w_, Calls Tryd.prog 24 #[.agg (itl x).toArray, .agg (itl y).toArray] w_ fun r w' => r = .returned (.bool false) ∧ GN w_ w') := hide fun w_ => (same_g hx hyI w_).mono fun r w' ⟨⟨v, h1, h2⟩, h3⟩ => ⟨by rw [h1]; cases v <;> simp_all, h3⟩
      clear hx hyI
      gi_wp2_with fail
      refine wpIn_region_E (fun w_ => GN W2 w_) GN (fun k_ v_ w_ => match k_ with
          | 0 => v_ = .int .i64 (pre.length : Nat)
          | 1 => v_ = .slice (some ⟨g1, o1, none⟩) F.q.length cap
          | 2 => v_ = .int .i64 (F.q.length : Nat)
          | 3 => v_ = .bool false
          | 4 => v_ = .bool false
          | 5 => v_ = .agg (itl x).toArray
          | 6 => v_ = .slice (some ⟨g1, o1, none⟩) F.q.length cap
          | 7 => v_ = .int .i64 (pre.length : Nat)
          | 8 => v_ = .pointer (some ⟨g1, o1 + pre.length * 13, none⟩)
          | 9 => v_ = .agg (itl y).toArray
          | 10 => v_ = .bool false
          | _ => v_ = .bool true) fol (noDefer_of (by kernel_rfl)) (by rintro ⟨_, _, h_⟩; exact h_) (by kernel_rfl) ?_ ?_ (n := 12) rfl rfl rfl (by kernel_rfl) ?_ ?_
      · exact (GN.refl W2).drew
      · intro k_ v_ w_ w2_ h1 hg
        split at h1 <;> exact h1
      · intro vals
        show wpG _ _ _ _ _ _ 0 (_ :: _) _
        refine wpG_cons (gop (Instr.loadAt 3 (.pointer (some ⟨kn, 0, none⟩))) (.int .i64 (pre.length : Nat)) GN.refl fun w_ hJ hd => ?_) ?_
        · exact ⟨by kernel_rfl, by kernel_rfl, run_load1 (by kernel_rfl) (cell_GN hJ (unhide Hn0)), rfl⟩
        refine wpG_cons (gop (Instr.loadAt 67 (.pointer (some ⟨kq, 0, none⟩))) (.slice (some ⟨g1, o1, none⟩) F.q.length cap) GN.refl fun w_ hJ hd => ?_) ?_
        · exact ⟨by kernel_rfl, by kernel_rfl, run_load1 (by kernel_rfl) (cell_GN hJ (unhide Hq0)), rfl⟩
        refine wpG_cons (gval (.int .i64 (F.q.length : Nat)) GN.refl fun w_ hJ hd => ?_) ?_
        · have e1 : vals 1 = _ := hd 1 (by decide) (by kernel_rfl)
          rw [e1]
          exact ⟨by kernel_rfl, by kernel_rfl, rfl⟩
        refine wpG_cons (gop (binOp .geq 3 (.int .i64 (pre.length : Nat)) (.int .i64 (F.q.length : Nat))) (.bool false) GN.refl fun w_ hJ hd => ?_) ?_
        · have e0 : vals 0 = _ := hd 0 (by decide) (by kernel_rfl)
          have e2 : vals 2 = _ := hd 2 (by decide) (by kernel_rfl)
          rw [e0, e2]
          exact ⟨by kernel_rfl, by kernel_rfl, run_geq3 hkn w_, rfl⟩
        refine wpG_cons (gval (.bool false) GN.refl fun w_ hJ hd => ?_) ?_
        · have e3 : vals 3 = _ := hd 3 (by decide) (by kernel_rfl)
          rw [e3]
          exact ⟨by kernel_rfl, by kernel_rfl, rfl⟩
        refine wpG_cons (gop (Instr.loadAt 38 (.pointer (some ⟨kx, 0, none⟩))) (.agg (itl x).toArray) GN.refl fun w_ hJ hd => ?_) ?_
        · have e4 : vals 4 = _ := hd 4 (by decide) (by kernel_rfl)
          rw [e4]
          exact ⟨by kernel_rfl, by kernel_rfl, run_loadAt_mid w_ kx 0 38 (itl x) _ (range_blk (hJ.heap (unhide Hkx)) 0 13 _ rfl) Tryd.underlying38 rfl (by kernel_rfl), rfl⟩
        refine wpG_cons (gop (Instr.loadAt 67 (.pointer (some ⟨kq, 0, none⟩))) (.slice (some ⟨g1, o1, none⟩) F.q.length cap) GN.refl fun w_ hJ hd => ?_) ?_
        · have e4 : vals 4 = _ := hd 4 (by decide) (by kernel_rfl)
          rw [e4]
          exact ⟨by kernel_rfl, by kernel_rfl, run_load1 (by kernel_rfl) (cell_GN hJ (unhide Hq0)), rfl⟩
        refine wpG_cons (gop (Instr.loadAt 3 (.pointer (some ⟨kn, 0, none⟩))) (.int .i64 (pre.length : Nat)) GN.refl fun w_ hJ hd => ?_) ?_
        · have e4 : vals 4 = _ := hd 4 (by decide) (by kernel_rfl)
          rw [e4]
          exact ⟨by kernel_rfl, by kernel_rfl, run_load1 (by kernel_rfl) (cell_GN hJ (unhide Hn0)), rfl⟩
        refine wpG_cons (gop (Instr.indexAt 67 (.slice (some ⟨g1, o1, none⟩) F.q.length cap) (.int .i64 (pre.length : Nat))) (.pointer (some ⟨g1, o1 + pre.length * 13, none⟩)) GN.refl fun w_ hJ hd => ?_) ?_
        · have e6 : vals 6 = _ := hd 6 (by decide) (by kernel_rfl)
          have e7 : vals 7 = _ := hd 7 (by decide) (by kernel_rfl)
          have e4 : vals 4 = _ := hd 4 (by decide) (by kernel_rfl)
          rw [e6, e7, e4]
          exact ⟨by kernel_rfl, by kernel_rfl, run_ixat 67 61 13 Tryd.underlying67 (by kernel_rfl) g1 o1 F.q.length cap pre.length hkn w_, rfl⟩
        refine wpG_cons (gop (Instr.loadAt 61 (.pointer (some ⟨g1, o1 + pre.length * 13, none⟩))) (.agg (itl y).toArray) GN.refl fun w_ hJ hd => ?_) ?_
        · have e8 : vals 8 = _ := hd 8 (by decide) (by kernel_rfl)
          have e4 : vals 4 = _ := hd 4 (by decide) (by kernel_rfl)
          rw [e8, e4]
          exact ⟨by kernel_rfl, by kernel_rfl, run_loadAt_mid w_ g1 (o1 + pre.length * 13) 61 (itl y) _ (item_at ((unhide HSl).gn hJ) (unhide Hy)) Tryd.underlying61 rfl (by kernel_rfl), rfl⟩
        refine wpG_cons (gcall 24 #[.agg (itl x).toArray, .agg (itl y).toArray] fun w_ hJ hd => ?_) ?_
        · have e5 : vals 5 = _ := hd 5 (by decide) (by kernel_rfl)
          have e9 : vals 9 = _ := hd 9 (by decide) (by kernel_rfl)
          have e4 : vals 4 = _ := hd 4 (by decide) (by kernel_rfl)
          rw [e5, e9, e4]
          exact ⟨by kernel_rfl, by kernel_rfl, (unhide HSm w_).mono fun e w2 ⟨he, hg⟩ => ⟨_, he, GN.trans hJ hg, hg, rfl⟩⟩
        refine wpG_cons (gval (.bool true) GN.refl fun w_ hJ hd => ?_) wpG_nil
        · have e10 : vals 10 = _ := hd 10 (by decide) (by kernel_rfl)
          have e4 : vals 4 = _ := hd 4 (by decide) (by kernel_rfl)
          rw [e10, e4]
          exact ⟨by kernel_rfl, by kernel_rfl, rfl⟩
      · intro vals w_ hJ hf
        have e0 : vals 0 = _ := hf 0 (by decide)
        have e1 : vals 1 = _ := hf 1 (by decide)
        have e2 : vals 2 = _ := hf 2 (by decide)
        have e3 : vals 3 = _ := hf 3 (by decide)
        have e4 : vals 4 = _ := hf 4 (by decide)
        have e5 : vals 5 = _ := hf 5 (by decide)
        have e6 : vals 6 = _ := hf 6 (by decide)
        have e7 : vals 7 = _ := hf 7 (by decide)
        have e8 : vals 8 = _ := hf 8 (by decide)
        have e9 : vals 9 = _ := hf 9 (by decide)
        have e10 : vals 10 = _ := hf 10 (by decide)
        have e11 : vals 11 = _ := hf 11 (by decide)
        show Oper.wp _ _ (fillG vals 0 (_ :: _ :: _ :: _ :: _ :: _ :: _ :: _ :: _ :: _ :: _ :: _ :: []) _) _ _ _
        simp only [fillG, Nat.zero_add, Nat.reduceAdd, e0, e1, e2, e3, e4, e5, e6, e7, e8, e9, e10, e11, Act.put, List.setIfInBounds_toArray, List.set_cons_succ, List.set_cons_zero]
        clear e0 e1 e2 e3 e4 e5 e6 e7 e8 e9 e10 e11 hf
        have h9 := (unhide HB).grown hJ
        have hz9 := hJ.size
        show Oper.wp _ (Oper.mk (some 24) _ _ _ _ _) _ _ _ _
        refine wp_last_value (v := .bool true) (w' := w_) (by kernel_rfl) ?_
        show Exit.then _ _ Exit.normal (Act.put ⟨_, _⟩ (some 24) _) _
        simp only [Act.put, List.setIfInBounds_toArray, List.set_cons_succ, List.set_cons_zero]
        clear hJ Hn0 Hq0 Hkx HSl HSm HB
        have HB := hide h9
        clear h9
        have r0 : w_.cell? ⟨kr, 0, none⟩ = some (.bool false) := (cell_blk (Heap.heap ((unhide HB).nth 4 rfl)) 0).1
        have r0f := (cell_blk (Heap.heap ((unhide HB).nth 4 rfl)) 0).2
        have hrl := lt_of_heap' (Heap.heap ((unhide HB).nth 4 rfl))
        gi_wp2
        refine ⟨by rw [size_setCell]; exact hz9, false, ⟨rfl, .inr fun hp => hxy ?_⟩, ?_⟩
        · obtain ⟨t, ht⟩ := hp
          have h1 := unhide Hy
          rw [← ht] at h1
          simp at h1
          rw [h1]
        · have h5 := ((unhide HB).nth 4 rfl).setl 0 (.bool false)
          exact (Heap.sort (L1 := [_, _, _, _, _, _, _, _, _]) (L2 := [_, _, _, _, _, _, _, _, _]) (M := []) h5 [4, 5, 6, 1, 2, 3, 0, 7, 8] rfl rfl (by decide)).tail.tail.tail
  case done =>
    rintro D W4 _ hJ
    unfold FB at hJ
    have n0 : W4.cell? ⟨kn, 0, none⟩ = some (.int .i64 (F.q.length : Nat)) := (cell_blk (Heap.heap (hJ.nth 3 rfl)) 0).1
    have hnl := lt_of_heap' (Heap.heap (hJ.nth 3 rfl))
    have q0 : W4.cell? ⟨kq, 0, none⟩ = some (.slice Aq F.q.length cap) := (cell_blk (Heap.heap (hJ.nth 5 rfl)) 0).1
    have hql := lt_of_heap' (Heap.heap (hJ.nth 5 rfl))
    have r0 : W4.cell? ⟨kr, 0, none⟩ = some (.bool false) := (cell_blk (Heap.heap (hJ.nth 4 rfl)) 0).1
    have r0f := (cell_blk (Heap.heap (hJ.nth 4 rfl)) 0).2
    have hrl := lt_of_heap' (Heap.heap (hJ.nth 4 rfl))
    have h5 := (hJ.nth 4 rfl).setl 0 (.bool true)
    have H5 := hide h5
    clear hJ h5
    go_wp2
    refine leaves_mark (unhide H5).f2 fun w' hJ => ⟨_, res28 rfl (v := true) hJ.heap, rfl, ?_⟩
    have h9 := back (Z := [_, _, _]) (Heap.sort (L1 := [_, _, _, _, _, _, _, _]) (L2 := [_, _, _, _, _, _, _, _]) (M := []) hJ [0, 3, 4, 5, 1, 2, 6, 7] rfl rfl (by decide)).tail.tail.tail.tail
    exact Heap.fr.2 ⟨_, hI, h9⟩
  case stop =>
    rintro D cd pre v W4 ⟨rfl, hv⟩ hp hI0
    rcases hv with rfl | hv
    · unfold FB at hI0
      gi_wp2
      refine leaves_mark hI0 fun w' hJ => ⟨_, res28 rfl (v := true) (Heap.heap hJ.f3), rfl, ?_⟩
      exact Heap.fr.2 ⟨_, hI, back (Z := [_, _, _]) hJ.f3.tail⟩
    · exact absurd hp hv
end
end Go.Proofs.YtblbgalpkodibaaDoor
