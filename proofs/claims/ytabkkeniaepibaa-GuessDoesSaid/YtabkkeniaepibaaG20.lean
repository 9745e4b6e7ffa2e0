/- Layer 18, the reference: Copy. -/
import Derived.Test.YtabkkeniaepibaaG19
import Derived.Test.YtabkkeniaepibaaRegionD
namespace Go.Proofs.Ytabkkeniaepibaa
open Go.RowKit

theorem info67 : (Try.prog.info? 67).map (fun i => (i.zero, i.size, i.bytes)) = some (some (.agg #[.int .u64 0, .int .u64 0, .int .i64 0]), 3, 24) := by kernel_rfl
theorem blk_neT {w : World} {b g : Nat} {x y : Array Value} {T U : TypeId} (h : w.heap[b]? = some (.cells x T (0, 0))) (k : w.heap[g]? = some (.cells y U (0, 0))) (hne : T ≠ U) : g ≠ b := blk_ne h k (by intro e; injection e with _ e; exact hne e)
theorem slw_has {w : World} {v : Value} {sz n : Nat} {xs : List Value} (h : Sl w sz v n xs) : (HP.slw v sz n xs).holds w ⟨fun x => sblk v = some x, fun x => sblk v = some x⟩ := ⟨h, rfl⟩
/-- A block and four slices, all of them new. -/
theorem fresh5 {w0 w w' : World} {L : List HP} (h : Heap w0 w L) (hg : GN w w') {b a1 a2 a3 a4 p1 p2 p3 p4 n1 n2 n3 n4 s1 s2 s3 s4 : Nat} {cs u1 u2 u3 u4 : Array Value} {T T1 T2 T3 T4 : TypeId} {y1 y2 y3 y4 : List Value}
    (hb : w'.heap[b]? = some (.cells cs T (0, 0))) (hb0 : w.heap.size ≤ b)
    (h1 : w'.heap[a1]? = some (.cells u1 T1 (0, 0))) (l1 : w.heap.size ≤ a1) (z1 : Sl w' s1 (.slice (some ⟨a1, 0, none⟩) n1 p1) n1 y1)
    (h2 : w'.heap[a2]? = some (.cells u2 T2 (0, 0))) (l2 : w.heap.size ≤ a2) (z2 : Sl w' s2 (.slice (some ⟨a2, 0, none⟩) n2 p2) n2 y2)
    (h3 : w'.heap[a3]? = some (.cells u3 T3 (0, 0))) (l3 : w.heap.size ≤ a3) (z3 : Sl w' s3 (.slice (some ⟨a3, 0, none⟩) n3 p3) n3 y3)
    (h4 : w'.heap[a4]? = some (.cells u4 T4 (0, 0))) (l4 : w.heap.size ≤ a4) (z4 : Sl w' s4 (.slice (some ⟨a4, 0, none⟩) n4 p4) n4 y4)
    (t1 : T ≠ T1) (t2 : T ≠ T2) (t3 : T ≠ T3) (t4 : T ≠ T4) (t12 : T1 ≠ T2) (t13 : T1 ≠ T3) (t14 : T1 ≠ T4) (t23 : T2 ≠ T3) (t34 : T3 ≠ T4) (n24 : a2 ≠ a4) :
    Heap w0 w' (HP.blk b cs T :: HP.slw (.slice (some ⟨a1, 0, none⟩) n1 p1) s1 n1 y1 :: HP.slw (.slice (some ⟨a2, 0, none⟩) n2 p2) s2 n2 y2 :: HP.slw (.slice (some ⟨a3, 0, none⟩) n3 p3) s3 n3 y3 :: HP.slw (.slice (some ⟨a4, 0, none⟩) n4 p4) s4 n4 y4 :: L) := by
  have e : ∀ {x y : Nat} {nx px ny py : Nat}, x ≠ y → sblk (.slice (some ⟨x, 0, none⟩) nx px) ≠ sblk (.slice (some ⟨y, 0, none⟩) ny py) := fun hne hc => by injection hc with hc; exact hne hc
  have eb : ∀ {x : Nat} {nx px : Nat}, x ≠ b → sblk (.slice (some ⟨x, 0, none⟩) nx px) ≠ some b := fun hne hc => by injection hc with hc; exact hne hc
  refine h.make (As := [HP.blk b cs T, HP.slw (.slice (some ⟨a1, 0, none⟩) n1 p1) s1 n1 y1, HP.slw (.slice (some ⟨a2, 0, none⟩) n2 p2) s2 n2 y2, HP.slw (.slice (some ⟨a3, 0, none⟩) n3 p3) s3 n3 y3, HP.slw (.slice (some ⟨a4, 0, none⟩) n4 p4) s4 n4 y4])
    (ds := [⟨fun x => x = b, fun _ => False⟩, _, _, _, _]) hg (.cons ⟨hb, rfl⟩ (.cons (slw_has z1) (.cons (slw_has z2) (.cons (slw_has z3) (.cons (slw_has z4) .nil))))) ?_ ?_
  · simp only [List.pairwise_cons, List.mem_cons, List.mem_nil_iff, or_false, forall_eq_or_imp, forall_eq]
    refine ⟨⟨apart_blk_sl (eb (blk_neT hb h1 t1)), apart_blk_sl (eb (blk_neT hb h2 t2)), apart_blk_sl (eb (blk_neT hb h3 t3)), apart_blk_sl (eb (blk_neT hb h4 t4))⟩, ⟨apart_sl_sl (e (blk_neT h2 h1 t12.symm)), apart_sl_sl (e (blk_neT h3 h1 t13.symm)), apart_sl_sl (e (blk_neT h4 h1 t14.symm))⟩,
      ⟨apart_sl_sl (e (blk_neT h3 h2 t23.symm)), apart_sl_sl (e n24)⟩, apart_sl_sl (e (blk_neT h4 h3 t34.symm)), fun _ h => h.elim, .nil⟩
  · intro c hc x hx
    simp only [List.mem_cons, List.mem_nil_iff, or_false] at hc
    have k : ∀ {y ny py : Nat}, w.heap.size ≤ y → (sblk (.slice (some ⟨y, 0, none⟩) ny py) = some x) → w.heap.size ≤ x := fun hy he => by (have e2 := Option.some.inj he); simp only at e2; omega
    rcases hc with rfl | rfl | rfl | rfl | rfl
    · rcases hx with hx | hx
      · exact hx ▸ hb0
      · exact hx.elim
    · exact hx.elim (k l1) (k l1)
    · exact hx.elim (k l2) (k l2)
    · exact hx.elim (k l3) (k l3)
    · exact hx.elim (k l4) (k l4)
section
variable {w0 w : World} {L : List HP} {b : Nat} {c : St}
set_option maxRecDepth 100000 in
set_option maxHeartbeats 4000000 in
theorem copyR_h (hr : Heap w0 w (HP.rg b c :: L)) :
    Calls Try.prog 20 #[.pointer (some ⟨b, 0, none⟩)] w fun r w' => ∃ b', r = .returned (.pointer (some ⟨b', 0, none⟩)) ∧ Heap w0 w' (HP.rg b' c :: HP.rg b c :: L) := by
  obtain ⟨g1, o1, c1, g2, o2, c2, A3, c3, g4, o4, c4, hI, h⟩ := hr.rgo
  obtain ⟨i67, hi67, hz067, hz167, hz267⟩ := info_parts info67
  obtain ⟨i3, hi3, hz03, hz13, hz23⟩ := info_parts info3
  obtain ⟨i22, hi22, hz022, hz122, hz222⟩ := info_parts info22
  have hz6 := hI.size
  obtain ⟨n, hn⟩ : ∃ n, (c 116).toNat = n := ⟨_, rfl⟩
  rw [hn] at h
  have hn4 : n ≤ 4 := by omega
  go_enter Try.func20, Try.ntmps20
  go_wp2
  by_cases q0 : n = 0
  · subst q0
    refine wp_region_DF (fun w_ => GN w w_) GN (fun k_ v_ w_ => match k_ with
        | 0 => ∃ g, v_ = .slice (some ⟨g, 0, none⟩) 0 0 ∧ w.heap.size ≤ g ∧ w_.heap[g]? = some (.cells #[] 67 (0, 0))
        | 1 => v_ = .pointer (some ⟨b, 0, none⟩)
        | 2 => v_ = .pointer (some ⟨b, 0, none⟩)
        | 3 => v_ = .pointer (some ⟨b, 0, none⟩)
        | 4 => v_ = .slice (some ⟨g1, o1, none⟩) 16 c1
        | 5 => ∃ g cap cur, v_ = .slice (some ⟨g, 0, none⟩) 16 cap ∧ w.heap.size ≤ g ∧ w_.heap[g]? = some (.cells cur 67 (0, 0)) ∧ Sl w_ 3 (.slice (some ⟨g, 0, none⟩) 16 cap) 16 (rws c)
        | 6 => ∃ g, v_ = .slice (some ⟨g, 0, none⟩) 0 0 ∧ w.heap.size ≤ g ∧ w_.heap[g]? = some (.cells #[] 3 (0, 0))
        | 7 => v_ = .pointer (some ⟨b, 0, none⟩)
        | 8 => v_ = .pointer (some ⟨b, 0, none⟩)
        | 9 => v_ = .pointer (some ⟨b, 1, none⟩)
        | 10 => v_ = .slice (some ⟨g2, o2, none⟩) 64 c2
        | 11 => ∃ g cap cur, v_ = .slice (some ⟨g, 0, none⟩) 64 cap ∧ w.heap.size ≤ g ∧ w_.heap[g]? = some (.cells cur 3 (0, 0)) ∧ Sl w_ 1 (.slice (some ⟨g, 0, none⟩) 64 cap) 64 (cts c)
        | 12 => ∃ g, v_ = .slice (some ⟨g, 0, none⟩) 0 0 ∧ w.heap.size ≤ g ∧ w_.heap[g]? = some (.cells #[] 22 (0, 0))
        | 13 => v_ = .pointer (some ⟨b, 0, none⟩)
        | 14 => v_ = .pointer (some ⟨b, 0, none⟩)
        | 15 => v_ = .pointer (some ⟨b, 2, none⟩)
        | 16 => v_ = .slice A3 0 c3
        | 17 => ∃ g cap cur, v_ = .slice (some ⟨g, 0, none⟩) 0 cap ∧ w.heap.size ≤ g ∧ w_.heap[g]? = some (.cells cur 22 (0, 0)) ∧ Sl w_ 1 (.slice (some ⟨g, 0, none⟩) 0 cap) 0 (sks c)
        | 18 => ∃ g, v_ = .slice (some ⟨g, 0, none⟩) 0 0 ∧ w.heap.size ≤ g ∧ w_.heap[g]? = some (.cells #[] 3 (0, 0))
        | 19 => v_ = .pointer (some ⟨b, 0, none⟩)
        | 20 => v_ = .pointer (some ⟨b, 0, none⟩)
        | 21 => v_ = .pointer (some ⟨b, 3, none⟩)
        | 22 => v_ = .slice (some ⟨g4, o4, none⟩) 6 c4
        | 23 => ∃ g cap cur, v_ = .slice (some ⟨g, 0, none⟩) 6 cap ∧ w.heap.size ≤ g ∧ w_.heap[g]? = some (.cells cur 3 (0, 0)) ∧ Sl w_ 1 (.slice (some ⟨g, 0, none⟩) 6 cap) 6 (hts c)
        | 24 => ∃ x1 x2 x3 x4, v_ = .agg #[x1, x2, x3, x4] ∧ (∃ g cap cur, x1 = .slice (some ⟨g, 0, none⟩) 16 cap ∧ w.heap.size ≤ g ∧ w_.heap[g]? = some (.cells cur 67 (0, 0)) ∧ Sl w_ 3 (.slice (some ⟨g, 0, none⟩) 16 cap) 16 (rws c)) ∧ (∃ g cap cur, x2 = .slice (some ⟨g, 0, none⟩) 64 cap ∧ w.heap.size ≤ g ∧ w_.heap[g]? = some (.cells cur 3 (0, 0)) ∧ Sl w_ 1 (.slice (some ⟨g, 0, none⟩) 64 cap) 64 (cts c)) ∧ (∃ g cap cur, x3 = .slice (some ⟨g, 0, none⟩) 0 cap ∧ w.heap.size ≤ g ∧ w_.heap[g]? = some (.cells cur 22 (0, 0)) ∧ Sl w_ 1 (.slice (some ⟨g, 0, none⟩) 0 cap) 0 (sks c)) ∧ (∃ g cap cur, x4 = .slice (some ⟨g, 0, none⟩) 6 cap ∧ w.heap.size ≤ g ∧ w_.heap[g]? = some (.cells cur 3 (0, 0)) ∧ Sl w_ 1 (.slice (some ⟨g, 0, none⟩) 6 cap) 6 (hts c)) ∧ sblk x2 ≠ sblk x4
        | 25 => ∃ b', v_ = .pointer (some ⟨b', 0, none⟩) ∧ w.heap.size ≤ b' ∧ ∃ x1 x2 x3 x4, w_.heap[b']? = some (.cells #[x1, x2, x3, x4] 61 (0, 0)) ∧ (∃ g cap cur, x1 = .slice (some ⟨g, 0, none⟩) 16 cap ∧ w.heap.size ≤ g ∧ w_.heap[g]? = some (.cells cur 67 (0, 0)) ∧ Sl w_ 3 (.slice (some ⟨g, 0, none⟩) 16 cap) 16 (rws c)) ∧ (∃ g cap cur, x2 = .slice (some ⟨g, 0, none⟩) 64 cap ∧ w.heap.size ≤ g ∧ w_.heap[g]? = some (.cells cur 3 (0, 0)) ∧ Sl w_ 1 (.slice (some ⟨g, 0, none⟩) 64 cap) 64 (cts c)) ∧ (∃ g cap cur, x3 = .slice (some ⟨g, 0, none⟩) 0 cap ∧ w.heap.size ≤ g ∧ w_.heap[g]? = some (.cells cur 22 (0, 0)) ∧ Sl w_ 1 (.slice (some ⟨g, 0, none⟩) 0 cap) 0 (sks c)) ∧ (∃ g cap cur, x4 = .slice (some ⟨g, 0, none⟩) 6 cap ∧ w.heap.size ≤ g ∧ w_.heap[g]? = some (.cells cur 3 (0, 0)) ∧ Sl w_ 1 (.slice (some ⟨g, 0, none⟩) 6 cap) 6 (hts c)) ∧ sblk x2 ≠ sblk x4
        | _ => ∃ b', v_ = .pointer (some ⟨b', 0, none⟩) ∧ w.heap.size ≤ b' ∧ ∃ x1 x2 x3 x4, w_.heap[b']? = some (.cells #[x1, x2, x3, x4] 61 (0, 0)) ∧ (∃ g cap cur, x1 = .slice (some ⟨g, 0, none⟩) 16 cap ∧ w.heap.size ≤ g ∧ w_.heap[g]? = some (.cells cur 67 (0, 0)) ∧ Sl w_ 3 (.slice (some ⟨g, 0, none⟩) 16 cap) 16 (rws c)) ∧ (∃ g cap cur, x2 = .slice (some ⟨g, 0, none⟩) 64 cap ∧ w.heap.size ≤ g ∧ w_.heap[g]? = some (.cells cur 3 (0, 0)) ∧ Sl w_ 1 (.slice (some ⟨g, 0, none⟩) 64 cap) 64 (cts c)) ∧ (∃ g cap cur, x3 = .slice (some ⟨g, 0, none⟩) 0 cap ∧ w.heap.size ≤ g ∧ w_.heap[g]? = some (.cells cur 22 (0, 0)) ∧ Sl w_ 1 (.slice (some ⟨g, 0, none⟩) 0 cap) 0 (sks c)) ∧ (∃ g cap cur, x4 = .slice (some ⟨g, 0, none⟩) 6 cap ∧ w.heap.size ≤ g ∧ w_.heap[g]? = some (.cells cur 3 (0, 0)) ∧ Sl w_ 1 (.slice (some ⟨g, 0, none⟩) 6 cap) 6 (hts c)) ∧ sblk x2 ≠ sblk x4) (fun k l x y => (k = 11 ∧ l = 23) ∨ (k = 23 ∧ l = 11) → sblk x ≠ sblk y) fol (by kernel_rfl) ?_ ?_ ?_ ?_
    · exact (GN.refl w).drew
    · intro k_ v_ w_ w2_ h1 hg
      split at h1 <;> first | exact h1 | (obtain ⟨g, e, q, r⟩ := h1; exact ⟨g, e, q, hg.heap r⟩) | (obtain ⟨g, cap, cur, e, q, r, t⟩ := h1; exact ⟨g, cap, cur, e, q, hg.heap r, t.gn hg⟩) | (obtain ⟨x1, x2, x3, x4, e, ⟨q1, q2, q3, e1, r1, r2, r3⟩, ⟨q5, q6, q7, e2, r4, r5, r6⟩, ⟨q9, q10, q11, e3, r7, r8, r9⟩, ⟨q13, q14, q15, e4, r10, r11, r12⟩, hne⟩ := h1; exact ⟨x1, x2, x3, x4, e, ⟨q1, q2, q3, e1, r1, hg.heap r2, r3.gn hg⟩, ⟨q5, q6, q7, e2, r4, hg.heap r5, r6.gn hg⟩, ⟨q9, q10, q11, e3, r7, hg.heap r8, r9.gn hg⟩, ⟨q13, q14, q15, e4, r10, hg.heap r11, r12.gn hg⟩, hne⟩) | (obtain ⟨b', e, q, x1, x2, x3, x4, e', ⟨q1, q2, q3, e1, r1, r2, r3⟩, ⟨q5, q6, q7, e2, r4, r5, r6⟩, ⟨q9, q10, q11, e3, r7, r8, r9⟩, ⟨q13, q14, q15, e4, r10, r11, r12⟩, hne⟩ := h1; exact ⟨b', e, q, x1, x2, x3, x4, hg.heap e', ⟨q1, q2, q3, e1, r1, hg.heap r2, r3.gn hg⟩, ⟨q5, q6, q7, e2, r4, hg.heap r5, r6.gn hg⟩, ⟨q9, q10, q11, e3, r7, hg.heap r8, r9.gn hg⟩, ⟨q13, q14, q15, e4, r10, hg.heap r11, r12.gn hg⟩, hne⟩)
    · intro vals
      show wpD _ _ _ _ _ _ _ 0 (_ :: _) _
      refine wpD_cons (dmake fun w_ hJ hd hdd => ?_) ?_
      · exact ⟨by kernel_rfl, _, w_.alloc (.cells #[] 67), (by kernel_rfl : _ = Result.ok (Next.value (.slice (some ⟨w_.heap.size, 0, none⟩) 0 0)) _), hJ.alloc _, grown_b1 _ _, ⟨w_.heap.size, rfl, hJ.size, heap_new' _ _⟩, (fun l u _ _ _ => ⟨fun h => by omega, fun h => by omega⟩)⟩
      refine wpD_cons (dval (.pointer (some ⟨b, 0, none⟩)) GN.refl (fun l x y _ => ⟨fun h => by omega, fun h => by omega⟩) fun w_ hJ hd => ?_) ?_
      · exact ⟨by kernel_rfl, by kernel_rfl, rfl⟩
      refine wpD_cons (dval (.pointer (some ⟨b, 0, none⟩)) GN.refl (fun l x y _ => ⟨fun h => by omega, fun h => by omega⟩) fun w_ hJ hd => ?_) ?_
      · have e1 : vals 1 = _ := hd 1 (by decide) (by kernel_rfl)
        rw [e1]
        exact ⟨by kernel_rfl, by kernel_rfl, rfl⟩
      refine wpD_cons (dval (.pointer (some ⟨b, 0, none⟩)) GN.refl (fun l x y _ => ⟨fun h => by omega, fun h => by omega⟩) fun w_ hJ hd => ?_) ?_
      · have e2 : vals 2 = _ := hd 2 (by decide) (by kernel_rfl)
        rw [e2]
        exact ⟨by kernel_rfl, by kernel_rfl, rfl⟩
      refine wpD_cons (dop (Instr.loadAt 58 (.pointer (some ⟨b, 0, none⟩))) (.slice (some ⟨g1, o1, none⟩) 16 c1) GN.refl (fun l x y _ => ⟨fun h => by omega, fun h => by omega⟩) fun w_ hJ hd => ?_) ?_
      · have e3 : vals 3 = _ := hd 3 (by decide) (by kernel_rfl)
        rw [e3]
        exact ⟨by kernel_rfl, by kernel_rfl, run_load1 (by kernel_rfl) (cells4f (h.grown hJ).heap).1, rfl⟩
      refine wpD_cons (dmake fun w_ hJ hd hdd => ?_) ?_
      · have e0 : ∃ g, (vals 0) = .slice (some ⟨g, 0, none⟩) 0 0 ∧ w.heap.size ≤ g ∧ w_.heap[g]? = some (.cells #[] 67 (0, 0)) := hd 0 (by decide) (by kernel_rfl)
        have e4 : vals 4 = _ := hd 4 (by decide) (by kernel_rfl)
        rw [e4]
        obtain ⟨g0, e_, q0, r0⟩ := e0
        rw [e_]
        obtain ⟨cap, cur, w', hr, hs, hh, hg⟩ := run_append_clone (P := Try.prog) (w := w_) (g0 := g0) (o0 := 0) 58 58 67 i67 _ 3 24 Try.underlying58 hi67 hz067 hz167 hz267 rfl ((h.grown hJ).f2.slw) (by omega) (by omega) (by omega)
        exact ⟨by kernel_rfl, _, w', Eq.trans (b := Sem.run Try.prog (do let r ← Builtin.append_ #[58, 58] 58 #[.slice (some ⟨g0, 0, none⟩) 0 0, .slice (some ⟨g1, o1, none⟩) 16 c1]; pure (Next.value r)) w_) (by kernel_rfl) (run_val hr), hJ.trans hg, hg, ⟨w_.heap.size, cap, cur, rfl, hJ.size, hh, hs⟩, (fun l u _ _ _ => ⟨fun h => by omega, fun h => by omega⟩)⟩
      refine wpD_cons (dmake fun w_ hJ hd hdd => ?_) ?_
      · exact ⟨by kernel_rfl, _, w_.alloc (.cells #[] 3), (by kernel_rfl : _ = Result.ok (Next.value (.slice (some ⟨w_.heap.size, 0, none⟩) 0 0)) _), hJ.alloc _, grown_b1 _ _, ⟨w_.heap.size, rfl, hJ.size, heap_new' _ _⟩, (fun l u _ _ _ => ⟨fun h => by omega, fun h => by omega⟩)⟩
      refine wpD_cons (dval (.pointer (some ⟨b, 0, none⟩)) GN.refl (fun l x y _ => ⟨fun h => by omega, fun h => by omega⟩) fun w_ hJ hd => ?_) ?_
      · exact ⟨by kernel_rfl, by kernel_rfl, rfl⟩
      refine wpD_cons (dval (.pointer (some ⟨b, 0, none⟩)) GN.refl (fun l x y _ => ⟨fun h => by omega, fun h => by omega⟩) fun w_ hJ hd => ?_) ?_
      · have e7 : vals 7 = _ := hd 7 (by decide) (by kernel_rfl)
        rw [e7]
        exact ⟨by kernel_rfl, by kernel_rfl, rfl⟩
      refine wpD_cons (dval (.pointer (some ⟨b, 1, none⟩)) GN.refl (fun l x y _ => ⟨fun h => by omega, fun h => by omega⟩) fun w_ hJ hd => ?_) ?_
      · have e8 : vals 8 = _ := hd 8 (by decide) (by kernel_rfl)
        rw [e8]
        exact ⟨by kernel_rfl, by kernel_rfl, rfl⟩
      refine wpD_cons (dop (Instr.loadAt 45 (.pointer (some ⟨b, 1, none⟩))) (.slice (some ⟨g2, o2, none⟩) 64 c2) GN.refl (fun l x y _ => ⟨fun h => by omega, fun h => by omega⟩) fun w_ hJ hd => ?_) ?_
      · have e9 : vals 9 = _ := hd 9 (by decide) (by kernel_rfl)
        rw [e9]
        exact ⟨by kernel_rfl, by kernel_rfl, run_load1 (by kernel_rfl) (cells4f (h.grown hJ).heap).2.1, rfl⟩
      refine wpD_cons (dmake fun w_ hJ hd hdd => ?_) ?_
      · have e6 : ∃ g, (vals 6) = .slice (some ⟨g, 0, none⟩) 0 0 ∧ w.heap.size ≤ g ∧ w_.heap[g]? = some (.cells #[] 3 (0, 0)) := hd 6 (by decide) (by kernel_rfl)
        have e10 : vals 10 = _ := hd 10 (by decide) (by kernel_rfl)
        rw [e10]
        obtain ⟨g0, e_, q0, r0⟩ := e6
        rw [e_]
        obtain ⟨cap, cur, w', hr, hs, hh, hg⟩ := run_append_clone (P := Try.prog) (w := w_) (g0 := g0) (o0 := 0) 45 45 3 i3 _ 1 8 Try.underlying45 hi3 hz03 hz13 hz23 rfl ((h.grown hJ).f3.slw) (by omega) (by omega) (by omega)
        exact ⟨by kernel_rfl, _, w', Eq.trans (b := Sem.run Try.prog (do let r ← Builtin.append_ #[45, 45] 45 #[.slice (some ⟨g0, 0, none⟩) 0 0, .slice (some ⟨g2, o2, none⟩) 64 c2]; pure (Next.value r)) w_) (by kernel_rfl) (run_val hr), hJ.trans hg, hg, ⟨w_.heap.size, cap, cur, rfl, hJ.size, hh, hs⟩, (fun l u _ hu _ => by
            by_cases hl : l = 23
            · subst hl
              obtain ⟨gx, _, _, rfl, _, hgx, _⟩ := hu
              have hlt := lt_of_heap' hgx
              exact ⟨fun _ e => by (have e2 : w_.heap.size = gx := Option.some.inj e); omega, fun _ e => by (have e2 : gx = w_.heap.size := Option.some.inj e); omega⟩
            · exact ⟨fun h => by omega, fun h => by omega⟩)⟩
      refine wpD_cons (dmake fun w_ hJ hd hdd => ?_) ?_
      · exact ⟨by kernel_rfl, _, w_.alloc (.cells #[] 22), (by kernel_rfl : _ = Result.ok (Next.value (.slice (some ⟨w_.heap.size, 0, none⟩) 0 0)) _), hJ.alloc _, grown_b1 _ _, ⟨w_.heap.size, rfl, hJ.size, heap_new' _ _⟩, (fun l u _ _ _ => ⟨fun h => by omega, fun h => by omega⟩)⟩
      refine wpD_cons (dval (.pointer (some ⟨b, 0, none⟩)) GN.refl (fun l x y _ => ⟨fun h => by omega, fun h => by omega⟩) fun w_ hJ hd => ?_) ?_
      · exact ⟨by kernel_rfl, by kernel_rfl, rfl⟩
      refine wpD_cons (dval (.pointer (some ⟨b, 0, none⟩)) GN.refl (fun l x y _ => ⟨fun h => by omega, fun h => by omega⟩) fun w_ hJ hd => ?_) ?_
      · have e13 : vals 13 = _ := hd 13 (by decide) (by kernel_rfl)
        rw [e13]
        exact ⟨by kernel_rfl, by kernel_rfl, rfl⟩
      refine wpD_cons (dval (.pointer (some ⟨b, 2, none⟩)) GN.refl (fun l x y _ => ⟨fun h => by omega, fun h => by omega⟩) fun w_ hJ hd => ?_) ?_
      · have e14 : vals 14 = _ := hd 14 (by decide) (by kernel_rfl)
        rw [e14]
        exact ⟨by kernel_rfl, by kernel_rfl, rfl⟩
      refine wpD_cons (dop (Instr.loadAt 59 (.pointer (some ⟨b, 2, none⟩))) (.slice A3 0 c3) GN.refl (fun l x y _ => ⟨fun h => by omega, fun h => by omega⟩) fun w_ hJ hd => ?_) ?_
      · have e15 : vals 15 = _ := hd 15 (by decide) (by kernel_rfl)
        rw [e15]
        exact ⟨by kernel_rfl, by kernel_rfl, run_load1 (by kernel_rfl) (cells4f (h.grown hJ).heap).2.2.1, rfl⟩
      refine wpD_cons (dmake fun w_ hJ hd hdd => ?_) ?_
      · have e12 : ∃ g, (vals 12) = .slice (some ⟨g, 0, none⟩) 0 0 ∧ w.heap.size ≤ g ∧ w_.heap[g]? = some (.cells #[] 22 (0, 0)) := hd 12 (by decide) (by kernel_rfl)
        have e16 : vals 16 = _ := hd 16 (by decide) (by kernel_rfl)
        rw [e16]
        obtain ⟨g0, e_, q0, r0⟩ := e12
        rw [e_]
        have hu := ((h.grown hJ).f4.slw)
        obtain ⟨B, cB, hV, _⟩ := hu.parts
        exact ⟨by kernel_rfl, _, w_, Eq.trans (b := Sem.run Try.prog (do let r ← Builtin.append_ #[59, 59] 59 #[.slice (some ⟨g0, 0, none⟩) 0 0, .slice A3 0 c3]; pure (Next.value r)) w_) (by kernel_rfl) (run_val (run_append_none (P := Try.prog) w_ 59 59 22 i22 Try.underlying59 hi22 _ 0 0 (Nat.le_refl _) A3 c3 (by cases A3; exact .inl rfl; exact .inr ⟨_, rfl⟩))), hJ, GN.refl _, ⟨g0, 0, _, rfl, q0, r0, ⟨hu.len, .inr ⟨g0, 0, 0, _, 22, rfl, r0, Nat.le_refl _, by simp, by have := hu.len; simp at this; simp [this]⟩⟩⟩, (fun l u _ _ _ => ⟨fun h => by omega, fun h => by omega⟩)⟩
      refine wpD_cons (dmake fun w_ hJ hd hdd => ?_) ?_
      · exact ⟨by kernel_rfl, _, w_.alloc (.cells #[] 3), (by kernel_rfl : _ = Result.ok (Next.value (.slice (some ⟨w_.heap.size, 0, none⟩) 0 0)) _), hJ.alloc _, grown_b1 _ _, ⟨w_.heap.size, rfl, hJ.size, heap_new' _ _⟩, (fun l u _ _ _ => ⟨fun h => by omega, fun h => by omega⟩)⟩
      refine wpD_cons (dval (.pointer (some ⟨b, 0, none⟩)) GN.refl (fun l x y _ => ⟨fun h => by omega, fun h => by omega⟩) fun w_ hJ hd => ?_) ?_
      · exact ⟨by kernel_rfl, by kernel_rfl, rfl⟩
      refine wpD_cons (dval (.pointer (some ⟨b, 0, none⟩)) GN.refl (fun l x y _ => ⟨fun h => by omega, fun h => by omega⟩) fun w_ hJ hd => ?_) ?_
      · have e19 : vals 19 = _ := hd 19 (by decide) (by kernel_rfl)
        rw [e19]
        exact ⟨by kernel_rfl, by kernel_rfl, rfl⟩
      refine wpD_cons (dval (.pointer (some ⟨b, 3, none⟩)) GN.refl (fun l x y _ => ⟨fun h => by omega, fun h => by omega⟩) fun w_ hJ hd => ?_) ?_
      · have e20 : vals 20 = _ := hd 20 (by decide) (by kernel_rfl)
        rw [e20]
        exact ⟨by kernel_rfl, by kernel_rfl, rfl⟩
      refine wpD_cons (dop (Instr.loadAt 45 (.pointer (some ⟨b, 3, none⟩))) (.slice (some ⟨g4, o4, none⟩) 6 c4) GN.refl (fun l x y _ => ⟨fun h => by omega, fun h => by omega⟩) fun w_ hJ hd => ?_) ?_
      · have e21 : vals 21 = _ := hd 21 (by decide) (by kernel_rfl)
        rw [e21]
        exact ⟨by kernel_rfl, by kernel_rfl, run_load1 (by kernel_rfl) (cells4f (h.grown hJ).heap).2.2.2.1, rfl⟩
      refine wpD_cons (dmake fun w_ hJ hd hdd => ?_) ?_
      · have e18 : ∃ g, (vals 18) = .slice (some ⟨g, 0, none⟩) 0 0 ∧ w.heap.size ≤ g ∧ w_.heap[g]? = some (.cells #[] 3 (0, 0)) := hd 18 (by decide) (by kernel_rfl)
        have e22 : vals 22 = _ := hd 22 (by decide) (by kernel_rfl)
        rw [e22]
        obtain ⟨g0, e_, q0, r0⟩ := e18
        rw [e_]
        obtain ⟨cap, cur, w', hr, hs, hh, hg⟩ := run_append_clone (P := Try.prog) (w := w_) (g0 := g0) (o0 := 0) 45 45 3 i3 _ 1 8 Try.underlying45 hi3 hz03 hz13 hz23 rfl ((h.grown hJ).f5.sl) (by omega) (by omega) (by omega)
        exact ⟨by kernel_rfl, _, w', Eq.trans (b := Sem.run Try.prog (do let r ← Builtin.append_ #[45, 45] 45 #[.slice (some ⟨g0, 0, none⟩) 0 0, .slice (some ⟨g4, o4, none⟩) 6 c4]; pure (Next.value r)) w_) (by kernel_rfl) (run_val hr), hJ.trans hg, hg, ⟨w_.heap.size, cap, cur, rfl, hJ.size, hh, hs⟩, (fun l u _ hu _ => by
            by_cases hl : l = 11
            · subst hl
              obtain ⟨gx, _, _, rfl, _, hgx, _⟩ := hu
              have hlt := lt_of_heap' hgx
              exact ⟨fun _ e => by (have e2 : w_.heap.size = gx := Option.some.inj e); omega, fun _ e => by (have e2 : gx = w_.heap.size := Option.some.inj e); omega⟩
            · exact ⟨fun h => by omega, fun h => by omega⟩)⟩
      refine wpD_cons (dmake fun w_ hJ hd hdd => ?_) ?_
      · have e5 : ∃ g cap cur, (vals 5) = .slice (some ⟨g, 0, none⟩) 16 cap ∧ w.heap.size ≤ g ∧ w_.heap[g]? = some (.cells cur 67 (0, 0)) ∧ Sl w_ 3 (.slice (some ⟨g, 0, none⟩) 16 cap) 16 (rws c) := hd 5 (by decide) (by kernel_rfl)
        have e11 : ∃ g cap cur, (vals 11) = .slice (some ⟨g, 0, none⟩) 64 cap ∧ w.heap.size ≤ g ∧ w_.heap[g]? = some (.cells cur 3 (0, 0)) ∧ Sl w_ 1 (.slice (some ⟨g, 0, none⟩) 64 cap) 64 (cts c) := hd 11 (by decide) (by kernel_rfl)
        have e17 : ∃ g cap cur, (vals 17) = .slice (some ⟨g, 0, none⟩) 0 cap ∧ w.heap.size ≤ g ∧ w_.heap[g]? = some (.cells cur 22 (0, 0)) ∧ Sl w_ 1 (.slice (some ⟨g, 0, none⟩) 0 cap) 0 (sks c) := hd 17 (by decide) (by kernel_rfl)
        have e23 : ∃ g cap cur, (vals 23) = .slice (some ⟨g, 0, none⟩) 6 cap ∧ w.heap.size ≤ g ∧ w_.heap[g]? = some (.cells cur 3 (0, 0)) ∧ Sl w_ 1 (.slice (some ⟨g, 0, none⟩) 6 cap) 6 (hts c) := hd 23 (by decide) (by kernel_rfl)
        have hne := hdd 11 23 (by decide) (by decide) (by kernel_rfl) (by kernel_rfl) (by decide) (.inl ⟨rfl, rfl⟩)
        obtain ⟨y1, hy1⟩ : ∃ y, vals 5 = y := ⟨_, rfl⟩
        obtain ⟨y2, hy2⟩ : ∃ y, vals 11 = y := ⟨_, rfl⟩
        obtain ⟨y3, hy3⟩ : ∃ y, vals 17 = y := ⟨_, rfl⟩
        obtain ⟨y4, hy4⟩ : ∃ y, vals 23 = y := ⟨_, rfl⟩
        rw [hy1] at e5
        rw [hy2] at e11 hne
        rw [hy3] at e17
        rw [hy4] at e23 hne
        rw [hy1, hy2, hy3, hy4]
        obtain ⟨q1, q2, q3, rfl, q4⟩ := e5
        obtain ⟨q5, q6, q7, rfl, q8⟩ := e11
        obtain ⟨q9, q10, q11, rfl, q12⟩ := e17
        obtain ⟨q13, q14, q15, rfl, q16⟩ := e23
        exact ⟨by kernel_rfl, _, w_, (by kernel_rfl : _ = Result.ok (Next.value (.agg #[.slice (some ⟨q1, 0, none⟩) 16 q2, .slice (some ⟨q5, 0, none⟩) 64 q6, .slice (some ⟨q9, 0, none⟩) 0 q10, .slice (some ⟨q13, 0, none⟩) 6 q14])) _), hJ, GN.refl _, ⟨_, _, _, _, rfl, ⟨q1, q2, q3, rfl, q4⟩, ⟨q5, q6, q7, rfl, q8⟩, ⟨q9, q10, q11, rfl, q12⟩, ⟨q13, q14, q15, rfl, q16⟩, hne⟩, (fun l u _ _ _ => ⟨fun h => by omega, fun h => by omega⟩)⟩
      refine wpD_cons (dmake fun w_ hJ hd hdd => ?_) ?_
      · have e24 : ∃ x1 x2 x3 x4, (vals 24) = .agg #[x1, x2, x3, x4] ∧ (∃ g cap cur, x1 = .slice (some ⟨g, 0, none⟩) 16 cap ∧ w.heap.size ≤ g ∧ w_.heap[g]? = some (.cells cur 67 (0, 0)) ∧ Sl w_ 3 (.slice (some ⟨g, 0, none⟩) 16 cap) 16 (rws c)) ∧ (∃ g cap cur, x2 = .slice (some ⟨g, 0, none⟩) 64 cap ∧ w.heap.size ≤ g ∧ w_.heap[g]? = some (.cells cur 3 (0, 0)) ∧ Sl w_ 1 (.slice (some ⟨g, 0, none⟩) 64 cap) 64 (cts c)) ∧ (∃ g cap cur, x3 = .slice (some ⟨g, 0, none⟩) 0 cap ∧ w.heap.size ≤ g ∧ w_.heap[g]? = some (.cells cur 22 (0, 0)) ∧ Sl w_ 1 (.slice (some ⟨g, 0, none⟩) 0 cap) 0 (sks c)) ∧ (∃ g cap cur, x4 = .slice (some ⟨g, 0, none⟩) 6 cap ∧ w.heap.size ≤ g ∧ w_.heap[g]? = some (.cells cur 3 (0, 0)) ∧ Sl w_ 1 (.slice (some ⟨g, 0, none⟩) 6 cap) 6 (hts c)) ∧ sblk x2 ≠ sblk x4 := hd 24 (by decide) (by kernel_rfl)
        obtain ⟨x1, x2, x3, x4, eg, ⟨q1, q2, q3, e1, r1, r2, r3⟩, ⟨q5, q6, q7, e2, r4, r5, r6⟩, ⟨q9, q10, q11, e3, r7, r8, r9⟩, ⟨q13, q14, q15, e4, r10, r11, r12⟩, hne⟩ := e24
        rw [eg]
        have hgn := grown_b1 w_ (.cells #[x1, x2, x3, x4] 61)
        exact ⟨by kernel_rfl, _, w_.alloc (.cells #[x1, x2, x3, x4] 61), (by subst e1 e2 e3 e4; kernel_rfl : _ = Result.ok (Next.value (.pointer (some ⟨w_.heap.size, 0, none⟩))) _), hJ.alloc _, hgn, ⟨w_.heap.size, rfl, hJ.size, x1, x2, x3, x4, heap_new' _ _, ⟨q1, q2, q3, e1, r1, hgn.heap r2, r3.gn hgn⟩, ⟨q5, q6, q7, e2, r4, hgn.heap r5, r6.gn hgn⟩, ⟨q9, q10, q11, e3, r7, hgn.heap r8, r9.gn hgn⟩, ⟨q13, q14, q15, e4, r10, hgn.heap r11, r12.gn hgn⟩, hne⟩, (fun l u _ _ _ => ⟨fun h => by omega, fun h => by omega⟩)⟩
      refine wpD_cons (dmake fun w_ hJ hd hdd => ?_) wpD_nil
      · have e25 : ∃ b', (vals 25) = .pointer (some ⟨b', 0, none⟩) ∧ w.heap.size ≤ b' ∧ ∃ x1 x2 x3 x4, w_.heap[b']? = some (.cells #[x1, x2, x3, x4] 61 (0, 0)) ∧ (∃ g cap cur, x1 = .slice (some ⟨g, 0, none⟩) 16 cap ∧ w.heap.size ≤ g ∧ w_.heap[g]? = some (.cells cur 67 (0, 0)) ∧ Sl w_ 3 (.slice (some ⟨g, 0, none⟩) 16 cap) 16 (rws c)) ∧ (∃ g cap cur, x2 = .slice (some ⟨g, 0, none⟩) 64 cap ∧ w.heap.size ≤ g ∧ w_.heap[g]? = some (.cells cur 3 (0, 0)) ∧ Sl w_ 1 (.slice (some ⟨g, 0, none⟩) 64 cap) 64 (cts c)) ∧ (∃ g cap cur, x3 = .slice (some ⟨g, 0, none⟩) 0 cap ∧ w.heap.size ≤ g ∧ w_.heap[g]? = some (.cells cur 22 (0, 0)) ∧ Sl w_ 1 (.slice (some ⟨g, 0, none⟩) 0 cap) 0 (sks c)) ∧ (∃ g cap cur, x4 = .slice (some ⟨g, 0, none⟩) 6 cap ∧ w.heap.size ≤ g ∧ w_.heap[g]? = some (.cells cur 3 (0, 0)) ∧ Sl w_ 1 (.slice (some ⟨g, 0, none⟩) 6 cap) 6 (hts c)) ∧ sblk x2 ≠ sblk x4 := hd 25 (by decide) (by kernel_rfl)
        obtain ⟨b', eb, hb⟩ := e25
        rw [eb]
        exact ⟨by kernel_rfl, _, w_, (by kernel_rfl : _ = Result.ok (Next.value (.pointer (some ⟨b', 0, none⟩))) _), hJ, GN.refl _, ⟨b', rfl, hb⟩, (fun l u _ _ _ => ⟨fun h => by omega, fun h => by omega⟩)⟩
    · intro vals w_ hJ hf _
      have e1 : vals 1 = _ := hf 1 (by decide)
      have e2 : vals 2 = _ := hf 2 (by decide)
      have e3 : vals 3 = _ := hf 3 (by decide)
      have e4 : vals 4 = _ := hf 4 (by decide)
      have e7 : vals 7 = _ := hf 7 (by decide)
      have e8 : vals 8 = _ := hf 8 (by decide)
      have e9 : vals 9 = _ := hf 9 (by decide)
      have e10 : vals 10 = _ := hf 10 (by decide)
      have e13 : vals 13 = _ := hf 13 (by decide)
      have e14 : vals 14 = _ := hf 14 (by decide)
      have e15 : vals 15 = _ := hf 15 (by decide)
      have e16 : vals 16 = _ := hf 16 (by decide)
      have e19 : vals 19 = _ := hf 19 (by decide)
      have e20 : vals 20 = _ := hf 20 (by decide)
      have e21 : vals 21 = _ := hf 21 (by decide)
      have e22 : vals 22 = _ := hf 22 (by decide)
      have e26 : ∃ b', (vals 26) = .pointer (some ⟨b', 0, none⟩) ∧ w.heap.size ≤ b' ∧ ∃ x1 x2 x3 x4, w_.heap[b']? = some (.cells #[x1, x2, x3, x4] 61 (0, 0)) ∧ (∃ g cap cur, x1 = .slice (some ⟨g, 0, none⟩) 16 cap ∧ w.heap.size ≤ g ∧ w_.heap[g]? = some (.cells cur 67 (0, 0)) ∧ Sl w_ 3 (.slice (some ⟨g, 0, none⟩) 16 cap) 16 (rws c)) ∧ (∃ g cap cur, x2 = .slice (some ⟨g, 0, none⟩) 64 cap ∧ w.heap.size ≤ g ∧ w_.heap[g]? = some (.cells cur 3 (0, 0)) ∧ Sl w_ 1 (.slice (some ⟨g, 0, none⟩) 64 cap) 64 (cts c)) ∧ (∃ g cap cur, x3 = .slice (some ⟨g, 0, none⟩) 0 cap ∧ w.heap.size ≤ g ∧ w_.heap[g]? = some (.cells cur 22 (0, 0)) ∧ Sl w_ 1 (.slice (some ⟨g, 0, none⟩) 0 cap) 0 (sks c)) ∧ (∃ g cap cur, x4 = .slice (some ⟨g, 0, none⟩) 6 cap ∧ w.heap.size ≤ g ∧ w_.heap[g]? = some (.cells cur 3 (0, 0)) ∧ Sl w_ 1 (.slice (some ⟨g, 0, none⟩) 6 cap) 6 (hts c)) ∧ sblk x2 ≠ sblk x4 := hf 26 (by decide)
      simp only [fillG, Nat.zero_add, Nat.reduceAdd, e1, e2, e3, e4, e7, e8, e9, e10, e13, e14, e15, e16, e19, e20, e21, e22, Act.put, List.setIfInBounds_toArray, List.set_cons_succ, List.set_cons_zero]
      clear e1 e2 e3 e4 e7 e8 e9 e10 e13 e14 e15 e16 e19 e20 e21 e22 hf
      generalize vals 0 = v0
      generalize vals 5 = v5
      generalize vals 6 = v6
      generalize vals 11 = v11
      generalize vals 12 = v12
      generalize vals 17 = v17
      generalize vals 18 = v18
      generalize vals 23 = v23
      generalize vals 24 = v24
      generalize vals 25 = v25
      generalize vals 26 = v26 at *
      obtain ⟨b', rfl, hb0, x1, x2, x3, x4, hb, ⟨q1, q2, q3, rfl, r1, r2, r3⟩, ⟨q5, q6, q7, rfl, r4, r5, r6⟩, ⟨q9, q10, q11, rfl, r7, r8, r9⟩, ⟨q13, q14, q15, rfl, r10, r11, r12⟩, hne⟩ := e26
      have hfin := fresh5 hr hJ hb hb0 r2 r1 r3 r5 r4 r6 r8 r7 r9 r11 r10 r12 (by decide) (by decide) (by decide) (by decide) (by decide) (by decide) (by decide) (by decide) (by decide) (fun e => hne (by show some q5 = some q13; rw [e]))
      go_wp2
      go_ret
      exact ⟨b', rfl, rgn hn hI hfin.f5.soften.f5.f5.f5.f5⟩
  · have hn0 : 0 < n := by omega
    refine wp_region_DF (fun w_ => GN w w_) GN (fun k_ v_ w_ => match k_ with
        | 0 => ∃ g, v_ = .slice (some ⟨g, 0, none⟩) 0 0 ∧ w.heap.size ≤ g ∧ w_.heap[g]? = some (.cells #[] 67 (0, 0))
        | 1 => v_ = .pointer (some ⟨b, 0, none⟩)
        | 2 => v_ = .pointer (some ⟨b, 0, none⟩)
        | 3 => v_ = .pointer (some ⟨b, 0, none⟩)
        | 4 => v_ = .slice (some ⟨g1, o1, none⟩) 16 c1
        | 5 => ∃ g cap cur, v_ = .slice (some ⟨g, 0, none⟩) 16 cap ∧ w.heap.size ≤ g ∧ w_.heap[g]? = some (.cells cur 67 (0, 0)) ∧ Sl w_ 3 (.slice (some ⟨g, 0, none⟩) 16 cap) 16 (rws c)
        | 6 => ∃ g, v_ = .slice (some ⟨g, 0, none⟩) 0 0 ∧ w.heap.size ≤ g ∧ w_.heap[g]? = some (.cells #[] 3 (0, 0))
        | 7 => v_ = .pointer (some ⟨b, 0, none⟩)
        | 8 => v_ = .pointer (some ⟨b, 0, none⟩)
        | 9 => v_ = .pointer (some ⟨b, 1, none⟩)
        | 10 => v_ = .slice (some ⟨g2, o2, none⟩) 64 c2
        | 11 => ∃ g cap cur, v_ = .slice (some ⟨g, 0, none⟩) 64 cap ∧ w.heap.size ≤ g ∧ w_.heap[g]? = some (.cells cur 3 (0, 0)) ∧ Sl w_ 1 (.slice (some ⟨g, 0, none⟩) 64 cap) 64 (cts c)
        | 12 => ∃ g, v_ = .slice (some ⟨g, 0, none⟩) 0 0 ∧ w.heap.size ≤ g ∧ w_.heap[g]? = some (.cells #[] 22 (0, 0))
        | 13 => v_ = .pointer (some ⟨b, 0, none⟩)
        | 14 => v_ = .pointer (some ⟨b, 0, none⟩)
        | 15 => v_ = .pointer (some ⟨b, 2, none⟩)
        | 16 => v_ = .slice A3 n c3
        | 17 => ∃ g cap cur, v_ = .slice (some ⟨g, 0, none⟩) n cap ∧ w.heap.size ≤ g ∧ w_.heap[g]? = some (.cells cur 22 (0, 0)) ∧ Sl w_ 1 (.slice (some ⟨g, 0, none⟩) n cap) n (sks c)
        | 18 => ∃ g, v_ = .slice (some ⟨g, 0, none⟩) 0 0 ∧ w.heap.size ≤ g ∧ w_.heap[g]? = some (.cells #[] 3 (0, 0))
        | 19 => v_ = .pointer (some ⟨b, 0, none⟩)
        | 20 => v_ = .pointer (some ⟨b, 0, none⟩)
        | 21 => v_ = .pointer (some ⟨b, 3, none⟩)
        | 22 => v_ = .slice (some ⟨g4, o4, none⟩) 6 c4
        | 23 => ∃ g cap cur, v_ = .slice (some ⟨g, 0, none⟩) 6 cap ∧ w.heap.size ≤ g ∧ w_.heap[g]? = some (.cells cur 3 (0, 0)) ∧ Sl w_ 1 (.slice (some ⟨g, 0, none⟩) 6 cap) 6 (hts c)
        | 24 => ∃ x1 x2 x3 x4, v_ = .agg #[x1, x2, x3, x4] ∧ (∃ g cap cur, x1 = .slice (some ⟨g, 0, none⟩) 16 cap ∧ w.heap.size ≤ g ∧ w_.heap[g]? = some (.cells cur 67 (0, 0)) ∧ Sl w_ 3 (.slice (some ⟨g, 0, none⟩) 16 cap) 16 (rws c)) ∧ (∃ g cap cur, x2 = .slice (some ⟨g, 0, none⟩) 64 cap ∧ w.heap.size ≤ g ∧ w_.heap[g]? = some (.cells cur 3 (0, 0)) ∧ Sl w_ 1 (.slice (some ⟨g, 0, none⟩) 64 cap) 64 (cts c)) ∧ (∃ g cap cur, x3 = .slice (some ⟨g, 0, none⟩) n cap ∧ w.heap.size ≤ g ∧ w_.heap[g]? = some (.cells cur 22 (0, 0)) ∧ Sl w_ 1 (.slice (some ⟨g, 0, none⟩) n cap) n (sks c)) ∧ (∃ g cap cur, x4 = .slice (some ⟨g, 0, none⟩) 6 cap ∧ w.heap.size ≤ g ∧ w_.heap[g]? = some (.cells cur 3 (0, 0)) ∧ Sl w_ 1 (.slice (some ⟨g, 0, none⟩) 6 cap) 6 (hts c)) ∧ sblk x2 ≠ sblk x4
        | 25 => ∃ b', v_ = .pointer (some ⟨b', 0, none⟩) ∧ w.heap.size ≤ b' ∧ ∃ x1 x2 x3 x4, w_.heap[b']? = some (.cells #[x1, x2, x3, x4] 61 (0, 0)) ∧ (∃ g cap cur, x1 = .slice (some ⟨g, 0, none⟩) 16 cap ∧ w.heap.size ≤ g ∧ w_.heap[g]? = some (.cells cur 67 (0, 0)) ∧ Sl w_ 3 (.slice (some ⟨g, 0, none⟩) 16 cap) 16 (rws c)) ∧ (∃ g cap cur, x2 = .slice (some ⟨g, 0, none⟩) 64 cap ∧ w.heap.size ≤ g ∧ w_.heap[g]? = some (.cells cur 3 (0, 0)) ∧ Sl w_ 1 (.slice (some ⟨g, 0, none⟩) 64 cap) 64 (cts c)) ∧ (∃ g cap cur, x3 = .slice (some ⟨g, 0, none⟩) n cap ∧ w.heap.size ≤ g ∧ w_.heap[g]? = some (.cells cur 22 (0, 0)) ∧ Sl w_ 1 (.slice (some ⟨g, 0, none⟩) n cap) n (sks c)) ∧ (∃ g cap cur, x4 = .slice (some ⟨g, 0, none⟩) 6 cap ∧ w.heap.size ≤ g ∧ w_.heap[g]? = some (.cells cur 3 (0, 0)) ∧ Sl w_ 1 (.slice (some ⟨g, 0, none⟩) 6 cap) 6 (hts c)) ∧ sblk x2 ≠ sblk x4
        | _ => ∃ b', v_ = .pointer (some ⟨b', 0, none⟩) ∧ w.heap.size ≤ b' ∧ ∃ x1 x2 x3 x4, w_.heap[b']? = some (.cells #[x1, x2, x3, x4] 61 (0, 0)) ∧ (∃ g cap cur, x1 = .slice (some ⟨g, 0, none⟩) 16 cap ∧ w.heap.size ≤ g ∧ w_.heap[g]? = some (.cells cur 67 (0, 0)) ∧ Sl w_ 3 (.slice (some ⟨g, 0, none⟩) 16 cap) 16 (rws c)) ∧ (∃ g cap cur, x2 = .slice (some ⟨g, 0, none⟩) 64 cap ∧ w.heap.size ≤ g ∧ w_.heap[g]? = some (.cells cur 3 (0, 0)) ∧ Sl w_ 1 (.slice (some ⟨g, 0, none⟩) 64 cap) 64 (cts c)) ∧ (∃ g cap cur, x3 = .slice (some ⟨g, 0, none⟩) n cap ∧ w.heap.size ≤ g ∧ w_.heap[g]? = some (.cells cur 22 (0, 0)) ∧ Sl w_ 1 (.slice (some ⟨g, 0, none⟩) n cap) n (sks c)) ∧ (∃ g cap cur, x4 = .slice (some ⟨g, 0, none⟩) 6 cap ∧ w.heap.size ≤ g ∧ w_.heap[g]? = some (.cells cur 3 (0, 0)) ∧ Sl w_ 1 (.slice (some ⟨g, 0, none⟩) 6 cap) 6 (hts c)) ∧ sblk x2 ≠ sblk x4) (fun k l x y => (k = 11 ∧ l = 23) ∨ (k = 23 ∧ l = 11) → sblk x ≠ sblk y) fol (by kernel_rfl) ?_ ?_ ?_ ?_
    · exact (GN.refl w).drew
    · intro k_ v_ w_ w2_ h1 hg
      split at h1 <;> first | exact h1 | (obtain ⟨g, e, q, r⟩ := h1; exact ⟨g, e, q, hg.heap r⟩) | (obtain ⟨g, cap, cur, e, q, r, t⟩ := h1; exact ⟨g, cap, cur, e, q, hg.heap r, t.gn hg⟩) | (obtain ⟨x1, x2, x3, x4, e, ⟨q1, q2, q3, e1, r1, r2, r3⟩, ⟨q5, q6, q7, e2, r4, r5, r6⟩, ⟨q9, q10, q11, e3, r7, r8, r9⟩, ⟨q13, q14, q15, e4, r10, r11, r12⟩, hne⟩ := h1; exact ⟨x1, x2, x3, x4, e, ⟨q1, q2, q3, e1, r1, hg.heap r2, r3.gn hg⟩, ⟨q5, q6, q7, e2, r4, hg.heap r5, r6.gn hg⟩, ⟨q9, q10, q11, e3, r7, hg.heap r8, r9.gn hg⟩, ⟨q13, q14, q15, e4, r10, hg.heap r11, r12.gn hg⟩, hne⟩) | (obtain ⟨b', e, q, x1, x2, x3, x4, e', ⟨q1, q2, q3, e1, r1, r2, r3⟩, ⟨q5, q6, q7, e2, r4, r5, r6⟩, ⟨q9, q10, q11, e3, r7, r8, r9⟩, ⟨q13, q14, q15, e4, r10, r11, r12⟩, hne⟩ := h1; exact ⟨b', e, q, x1, x2, x3, x4, hg.heap e', ⟨q1, q2, q3, e1, r1, hg.heap r2, r3.gn hg⟩, ⟨q5, q6, q7, e2, r4, hg.heap r5, r6.gn hg⟩, ⟨q9, q10, q11, e3, r7, hg.heap r8, r9.gn hg⟩, ⟨q13, q14, q15, e4, r10, hg.heap r11, r12.gn hg⟩, hne⟩)
    · intro vals
      show wpD _ _ _ _ _ _ _ 0 (_ :: _) _
      refine wpD_cons (dmake fun w_ hJ hd hdd => ?_) ?_
      · exact ⟨by kernel_rfl, _, w_.alloc (.cells #[] 67), (by kernel_rfl : _ = Result.ok (Next.value (.slice (some ⟨w_.heap.size, 0, none⟩) 0 0)) _), hJ.alloc _, grown_b1 _ _, ⟨w_.heap.size, rfl, hJ.size, heap_new' _ _⟩, (fun l u _ _ _ => ⟨fun h => by omega, fun h => by omega⟩)⟩
      refine wpD_cons (dval (.pointer (some ⟨b, 0, none⟩)) GN.refl (fun l x y _ => ⟨fun h => by omega, fun h => by omega⟩) fun w_ hJ hd => ?_) ?_
      · exact ⟨by kernel_rfl, by kernel_rfl, rfl⟩
      refine wpD_cons (dval (.pointer (some ⟨b, 0, none⟩)) GN.refl (fun l x y _ => ⟨fun h => by omega, fun h => by omega⟩) fun w_ hJ hd => ?_) ?_
      · have e1 : vals 1 = _ := hd 1 (by decide) (by kernel_rfl)
        rw [e1]
        exact ⟨by kernel_rfl, by kernel_rfl, rfl⟩
      refine wpD_cons (dval (.pointer (some ⟨b, 0, none⟩)) GN.refl (fun l x y _ => ⟨fun h => by omega, fun h => by omega⟩) fun w_ hJ hd => ?_) ?_
      · have e2 : vals 2 = _ := hd 2 (by decide) (by kernel_rfl)
        rw [e2]
        exact ⟨by kernel_rfl, by kernel_rfl, rfl⟩
      refine wpD_cons (dop (Instr.loadAt 58 (.pointer (some ⟨b, 0, none⟩))) (.slice (some ⟨g1, o1, none⟩) 16 c1) GN.refl (fun l x y _ => ⟨fun h => by omega, fun h => by omega⟩) fun w_ hJ hd => ?_) ?_
      · have e3 : vals 3 = _ := hd 3 (by decide) (by kernel_rfl)
        rw [e3]
        exact ⟨by kernel_rfl, by kernel_rfl, run_load1 (by kernel_rfl) (cells4f (h.grown hJ).heap).1, rfl⟩
      refine wpD_cons (dmake fun w_ hJ hd hdd => ?_) ?_
      · have e0 : ∃ g, (vals 0) = .slice (some ⟨g, 0, none⟩) 0 0 ∧ w.heap.size ≤ g ∧ w_.heap[g]? = some (.cells #[] 67 (0, 0)) := hd 0 (by decide) (by kernel_rfl)
        have e4 : vals 4 = _ := hd 4 (by decide) (by kernel_rfl)
        rw [e4]
        obtain ⟨g0, e_, q0, r0⟩ := e0
        rw [e_]
        obtain ⟨cap, cur, w', hr, hs, hh, hg⟩ := run_append_clone (P := Try.prog) (w := w_) (g0 := g0) (o0 := 0) 58 58 67 i67 _ 3 24 Try.underlying58 hi67 hz067 hz167 hz267 rfl ((h.grown hJ).f2.slw) (by omega) (by omega) (by omega)
        exact ⟨by kernel_rfl, _, w', Eq.trans (b := Sem.run Try.prog (do let r ← Builtin.append_ #[58, 58] 58 #[.slice (some ⟨g0, 0, none⟩) 0 0, .slice (some ⟨g1, o1, none⟩) 16 c1]; pure (Next.value r)) w_) (by kernel_rfl) (run_val hr), hJ.trans hg, hg, ⟨w_.heap.size, cap, cur, rfl, hJ.size, hh, hs⟩, (fun l u _ _ _ => ⟨fun h => by omega, fun h => by omega⟩)⟩
      refine wpD_cons (dmake fun w_ hJ hd hdd => ?_) ?_
      · exact ⟨by kernel_rfl, _, w_.alloc (.cells #[] 3), (by kernel_rfl : _ = Result.ok (Next.value (.slice (some ⟨w_.heap.size, 0, none⟩) 0 0)) _), hJ.alloc _, grown_b1 _ _, ⟨w_.heap.size, rfl, hJ.size, heap_new' _ _⟩, (fun l u _ _ _ => ⟨fun h => by omega, fun h => by omega⟩)⟩
      refine wpD_cons (dval (.pointer (some ⟨b, 0, none⟩)) GN.refl (fun l x y _ => ⟨fun h => by omega, fun h => by omega⟩) fun w_ hJ hd => ?_) ?_
      · exact ⟨by kernel_rfl, by kernel_rfl, rfl⟩
      refine wpD_cons (dval (.pointer (some ⟨b, 0, none⟩)) GN.refl (fun l x y _ => ⟨fun h => by omega, fun h => by omega⟩) fun w_ hJ hd => ?_) ?_
      · have e7 : vals 7 = _ := hd 7 (by decide) (by kernel_rfl)
        rw [e7]
        exact ⟨by kernel_rfl, by kernel_rfl, rfl⟩
      refine wpD_cons (dval (.pointer (some ⟨b, 1, none⟩)) GN.refl (fun l x y _ => ⟨fun h => by omega, fun h => by omega⟩) fun w_ hJ hd => ?_) ?_
      · have e8 : vals 8 = _ := hd 8 (by decide) (by kernel_rfl)
        rw [e8]
        exact ⟨by kernel_rfl, by kernel_rfl, rfl⟩
      refine wpD_cons (dop (Instr.loadAt 45 (.pointer (some ⟨b, 1, none⟩))) (.slice (some ⟨g2, o2, none⟩) 64 c2) GN.refl (fun l x y _ => ⟨fun h => by omega, fun h => by omega⟩) fun w_ hJ hd => ?_) ?_
      · have e9 : vals 9 = _ := hd 9 (by decide) (by kernel_rfl)
        rw [e9]
        exact ⟨by kernel_rfl, by kernel_rfl, run_load1 (by kernel_rfl) (cells4f (h.grown hJ).heap).2.1, rfl⟩
      refine wpD_cons (dmake fun w_ hJ hd hdd => ?_) ?_
      · have e6 : ∃ g, (vals 6) = .slice (some ⟨g, 0, none⟩) 0 0 ∧ w.heap.size ≤ g ∧ w_.heap[g]? = some (.cells #[] 3 (0, 0)) := hd 6 (by decide) (by kernel_rfl)
        have e10 : vals 10 = _ := hd 10 (by decide) (by kernel_rfl)
        rw [e10]
        obtain ⟨g0, e_, q0, r0⟩ := e6
        rw [e_]
        obtain ⟨cap, cur, w', hr, hs, hh, hg⟩ := run_append_clone (P := Try.prog) (w := w_) (g0 := g0) (o0 := 0) 45 45 3 i3 _ 1 8 Try.underlying45 hi3 hz03 hz13 hz23 rfl ((h.grown hJ).f3.slw) (by omega) (by omega) (by omega)
        exact ⟨by kernel_rfl, _, w', Eq.trans (b := Sem.run Try.prog (do let r ← Builtin.append_ #[45, 45] 45 #[.slice (some ⟨g0, 0, none⟩) 0 0, .slice (some ⟨g2, o2, none⟩) 64 c2]; pure (Next.value r)) w_) (by kernel_rfl) (run_val hr), hJ.trans hg, hg, ⟨w_.heap.size, cap, cur, rfl, hJ.size, hh, hs⟩, (fun l u _ hu _ => by
            by_cases hl : l = 23
            · subst hl
              obtain ⟨gx, _, _, rfl, _, hgx, _⟩ := hu
              have hlt := lt_of_heap' hgx
              exact ⟨fun _ e => by (have e2 : w_.heap.size = gx := Option.some.inj e); omega, fun _ e => by (have e2 : gx = w_.heap.size := Option.some.inj e); omega⟩
            · exact ⟨fun h => by omega, fun h => by omega⟩)⟩
      refine wpD_cons (dmake fun w_ hJ hd hdd => ?_) ?_
      · exact ⟨by kernel_rfl, _, w_.alloc (.cells #[] 22), (by kernel_rfl : _ = Result.ok (Next.value (.slice (some ⟨w_.heap.size, 0, none⟩) 0 0)) _), hJ.alloc _, grown_b1 _ _, ⟨w_.heap.size, rfl, hJ.size, heap_new' _ _⟩, (fun l u _ _ _ => ⟨fun h => by omega, fun h => by omega⟩)⟩
      refine wpD_cons (dval (.pointer (some ⟨b, 0, none⟩)) GN.refl (fun l x y _ => ⟨fun h => by omega, fun h => by omega⟩) fun w_ hJ hd => ?_) ?_
      · exact ⟨by kernel_rfl, by kernel_rfl, rfl⟩
      refine wpD_cons (dval (.pointer (some ⟨b, 0, none⟩)) GN.refl (fun l x y _ => ⟨fun h => by omega, fun h => by omega⟩) fun w_ hJ hd => ?_) ?_
      · have e13 : vals 13 = _ := hd 13 (by decide) (by kernel_rfl)
        rw [e13]
        exact ⟨by kernel_rfl, by kernel_rfl, rfl⟩
      refine wpD_cons (dval (.pointer (some ⟨b, 2, none⟩)) GN.refl (fun l x y _ => ⟨fun h => by omega, fun h => by omega⟩) fun w_ hJ hd => ?_) ?_
      · have e14 : vals 14 = _ := hd 14 (by decide) (by kernel_rfl)
        rw [e14]
        exact ⟨by kernel_rfl, by kernel_rfl, rfl⟩
      refine wpD_cons (dop (Instr.loadAt 59 (.pointer (some ⟨b, 2, none⟩))) (.slice A3 n c3) GN.refl (fun l x y _ => ⟨fun h => by omega, fun h => by omega⟩) fun w_ hJ hd => ?_) ?_
      · have e15 : vals 15 = _ := hd 15 (by decide) (by kernel_rfl)
        rw [e15]
        exact ⟨by kernel_rfl, by kernel_rfl, run_load1 (by kernel_rfl) (cells4f (h.grown hJ).heap).2.2.1, rfl⟩
      refine wpD_cons (dmake fun w_ hJ hd hdd => ?_) ?_
      · have e12 : ∃ g, (vals 12) = .slice (some ⟨g, 0, none⟩) 0 0 ∧ w.heap.size ≤ g ∧ w_.heap[g]? = some (.cells #[] 22 (0, 0)) := hd 12 (by decide) (by kernel_rfl)
        have e16 : vals 16 = _ := hd 16 (by decide) (by kernel_rfl)
        rw [e16]
        obtain ⟨g0, e_, q0, r0⟩ := e12
        rw [e_]
        obtain ⟨cap, cur, w', hr, hs, hh, hg⟩ := run_append_clone (P := Try.prog) (w := w_) (g0 := g0) (o0 := 0) 59 59 22 i22 _ 1 8 Try.underlying59 hi22 hz022 hz122 hz222 rfl ((h.grown hJ).f4.slw) (by omega) (by omega) (by omega)
        exact ⟨by kernel_rfl, _, w', Eq.trans (b := Sem.run Try.prog (do let r ← Builtin.append_ #[59, 59] 59 #[.slice (some ⟨g0, 0, none⟩) 0 0, .slice A3 n c3]; pure (Next.value r)) w_) (by kernel_rfl) (run_val hr), hJ.trans hg, hg, ⟨w_.heap.size, cap, cur, rfl, hJ.size, hh, hs⟩, (fun l u _ _ _ => ⟨fun h => by omega, fun h => by omega⟩)⟩
      refine wpD_cons (dmake fun w_ hJ hd hdd => ?_) ?_
      · exact ⟨by kernel_rfl, _, w_.alloc (.cells #[] 3), (by kernel_rfl : _ = Result.ok (Next.value (.slice (some ⟨w_.heap.size, 0, none⟩) 0 0)) _), hJ.alloc _, grown_b1 _ _, ⟨w_.heap.size, rfl, hJ.size, heap_new' _ _⟩, (fun l u _ _ _ => ⟨fun h => by omega, fun h => by omega⟩)⟩
      refine wpD_cons (dval (.pointer (some ⟨b, 0, none⟩)) GN.refl (fun l x y _ => ⟨fun h => by omega, fun h => by omega⟩) fun w_ hJ hd => ?_) ?_
      · exact ⟨by kernel_rfl, by kernel_rfl, rfl⟩
      refine wpD_cons (dval (.pointer (some ⟨b, 0, none⟩)) GN.refl (fun l x y _ => ⟨fun h => by omega, fun h => by omega⟩) fun w_ hJ hd => ?_) ?_
      · have e19 : vals 19 = _ := hd 19 (by decide) (by kernel_rfl)
        rw [e19]
        exact ⟨by kernel_rfl, by kernel_rfl, rfl⟩
      refine wpD_cons (dval (.pointer (some ⟨b, 3, none⟩)) GN.refl (fun l x y _ => ⟨fun h => by omega, fun h => by omega⟩) fun w_ hJ hd => ?_) ?_
      · have e20 : vals 20 = _ := hd 20 (by decide) (by kernel_rfl)
        rw [e20]
        exact ⟨by kernel_rfl, by kernel_rfl, rfl⟩
      refine wpD_cons (dop (Instr.loadAt 45 (.pointer (some ⟨b, 3, none⟩))) (.slice (some ⟨g4, o4, none⟩) 6 c4) GN.refl (fun l x y _ => ⟨fun h => by omega, fun h => by omega⟩) fun w_ hJ hd => ?_) ?_
      · have e21 : vals 21 = _ := hd 21 (by decide) (by kernel_rfl)
        rw [e21]
        exact ⟨by kernel_rfl, by kernel_rfl, run_load1 (by kernel_rfl) (cells4f (h.grown hJ).heap).2.2.2.1, rfl⟩
      refine wpD_cons (dmake fun w_ hJ hd hdd => ?_) ?_
      · have e18 : ∃ g, (vals 18) = .slice (some ⟨g, 0, none⟩) 0 0 ∧ w.heap.size ≤ g ∧ w_.heap[g]? = some (.cells #[] 3 (0, 0)) := hd 18 (by decide) (by kernel_rfl)
        have e22 : vals 22 = _ := hd 22 (by decide) (by kernel_rfl)
        rw [e22]
        obtain ⟨g0, e_, q0, r0⟩ := e18
        rw [e_]
        obtain ⟨cap, cur, w', hr, hs, hh, hg⟩ := run_append_clone (P := Try.prog) (w := w_) (g0 := g0) (o0 := 0) 45 45 3 i3 _ 1 8 Try.underlying45 hi3 hz03 hz13 hz23 rfl ((h.grown hJ).f5.sl) (by omega) (by omega) (by omega)
        exact ⟨by kernel_rfl, _, w', Eq.trans (b := Sem.run Try.prog (do let r ← Builtin.append_ #[45, 45] 45 #[.slice (some ⟨g0, 0, none⟩) 0 0, .slice (some ⟨g4, o4, none⟩) 6 c4]; pure (Next.value r)) w_) (by kernel_rfl) (run_val hr), hJ.trans hg, hg, ⟨w_.heap.size, cap, cur, rfl, hJ.size, hh, hs⟩, (fun l u _ hu _ => by
            by_cases hl : l = 11
            · subst hl
              obtain ⟨gx, _, _, rfl, _, hgx, _⟩ := hu
              have hlt := lt_of_heap' hgx
              exact ⟨fun _ e => by (have e2 : w_.heap.size = gx := Option.some.inj e); omega, fun _ e => by (have e2 : gx = w_.heap.size := Option.some.inj e); omega⟩
            · exact ⟨fun h => by omega, fun h => by omega⟩)⟩
      refine wpD_cons (dmake fun w_ hJ hd hdd => ?_) ?_
      · have e5 : ∃ g cap cur, (vals 5) = .slice (some ⟨g, 0, none⟩) 16 cap ∧ w.heap.size ≤ g ∧ w_.heap[g]? = some (.cells cur 67 (0, 0)) ∧ Sl w_ 3 (.slice (some ⟨g, 0, none⟩) 16 cap) 16 (rws c) := hd 5 (by decide) (by kernel_rfl)
        have e11 : ∃ g cap cur, (vals 11) = .slice (some ⟨g, 0, none⟩) 64 cap ∧ w.heap.size ≤ g ∧ w_.heap[g]? = some (.cells cur 3 (0, 0)) ∧ Sl w_ 1 (.slice (some ⟨g, 0, none⟩) 64 cap) 64 (cts c) := hd 11 (by decide) (by kernel_rfl)
        have e17 : ∃ g cap cur, (vals 17) = .slice (some ⟨g, 0, none⟩) n cap ∧ w.heap.size ≤ g ∧ w_.heap[g]? = some (.cells cur 22 (0, 0)) ∧ Sl w_ 1 (.slice (some ⟨g, 0, none⟩) n cap) n (sks c) := hd 17 (by decide) (by kernel_rfl)
        have e23 : ∃ g cap cur, (vals 23) = .slice (some ⟨g, 0, none⟩) 6 cap ∧ w.heap.size ≤ g ∧ w_.heap[g]? = some (.cells cur 3 (0, 0)) ∧ Sl w_ 1 (.slice (some ⟨g, 0, none⟩) 6 cap) 6 (hts c) := hd 23 (by decide) (by kernel_rfl)
        have hne := hdd 11 23 (by decide) (by decide) (by kernel_rfl) (by kernel_rfl) (by decide) (.inl ⟨rfl, rfl⟩)
        obtain ⟨y1, hy1⟩ : ∃ y, vals 5 = y := ⟨_, rfl⟩
        obtain ⟨y2, hy2⟩ : ∃ y, vals 11 = y := ⟨_, rfl⟩
        obtain ⟨y3, hy3⟩ : ∃ y, vals 17 = y := ⟨_, rfl⟩
        obtain ⟨y4, hy4⟩ : ∃ y, vals 23 = y := ⟨_, rfl⟩
        rw [hy1] at e5
        rw [hy2] at e11 hne
        rw [hy3] at e17
        rw [hy4] at e23 hne
        rw [hy1, hy2, hy3, hy4]
        obtain ⟨q1, q2, q3, rfl, q4⟩ := e5
        obtain ⟨q5, q6, q7, rfl, q8⟩ := e11
        obtain ⟨q9, q10, q11, rfl, q12⟩ := e17
        obtain ⟨q13, q14, q15, rfl, q16⟩ := e23
        exact ⟨by kernel_rfl, _, w_, (by kernel_rfl : _ = Result.ok (Next.value (.agg #[.slice (some ⟨q1, 0, none⟩) 16 q2, .slice (some ⟨q5, 0, none⟩) 64 q6, .slice (some ⟨q9, 0, none⟩) n q10, .slice (some ⟨q13, 0, none⟩) 6 q14])) _), hJ, GN.refl _, ⟨_, _, _, _, rfl, ⟨q1, q2, q3, rfl, q4⟩, ⟨q5, q6, q7, rfl, q8⟩, ⟨q9, q10, q11, rfl, q12⟩, ⟨q13, q14, q15, rfl, q16⟩, hne⟩, (fun l u _ _ _ => ⟨fun h => by omega, fun h => by omega⟩)⟩
      refine wpD_cons (dmake fun w_ hJ hd hdd => ?_) ?_
      · have e24 : ∃ x1 x2 x3 x4, (vals 24) = .agg #[x1, x2, x3, x4] ∧ (∃ g cap cur, x1 = .slice (some ⟨g, 0, none⟩) 16 cap ∧ w.heap.size ≤ g ∧ w_.heap[g]? = some (.cells cur 67 (0, 0)) ∧ Sl w_ 3 (.slice (some ⟨g, 0, none⟩) 16 cap) 16 (rws c)) ∧ (∃ g cap cur, x2 = .slice (some ⟨g, 0, none⟩) 64 cap ∧ w.heap.size ≤ g ∧ w_.heap[g]? = some (.cells cur 3 (0, 0)) ∧ Sl w_ 1 (.slice (some ⟨g, 0, none⟩) 64 cap) 64 (cts c)) ∧ (∃ g cap cur, x3 = .slice (some ⟨g, 0, none⟩) n cap ∧ w.heap.size ≤ g ∧ w_.heap[g]? = some (.cells cur 22 (0, 0)) ∧ Sl w_ 1 (.slice (some ⟨g, 0, none⟩) n cap) n (sks c)) ∧ (∃ g cap cur, x4 = .slice (some ⟨g, 0, none⟩) 6 cap ∧ w.heap.size ≤ g ∧ w_.heap[g]? = some (.cells cur 3 (0, 0)) ∧ Sl w_ 1 (.slice (some ⟨g, 0, none⟩) 6 cap) 6 (hts c)) ∧ sblk x2 ≠ sblk x4 := hd 24 (by decide) (by kernel_rfl)
        obtain ⟨x1, x2, x3, x4, eg, ⟨q1, q2, q3, e1, r1, r2, r3⟩, ⟨q5, q6, q7, e2, r4, r5, r6⟩, ⟨q9, q10, q11, e3, r7, r8, r9⟩, ⟨q13, q14, q15, e4, r10, r11, r12⟩, hne⟩ := e24
        rw [eg]
        have hgn := grown_b1 w_ (.cells #[x1, x2, x3, x4] 61)
        exact ⟨by kernel_rfl, _, w_.alloc (.cells #[x1, x2, x3, x4] 61), (by subst e1 e2 e3 e4; kernel_rfl : _ = Result.ok (Next.value (.pointer (some ⟨w_.heap.size, 0, none⟩))) _), hJ.alloc _, hgn, ⟨w_.heap.size, rfl, hJ.size, x1, x2, x3, x4, heap_new' _ _, ⟨q1, q2, q3, e1, r1, hgn.heap r2, r3.gn hgn⟩, ⟨q5, q6, q7, e2, r4, hgn.heap r5, r6.gn hgn⟩, ⟨q9, q10, q11, e3, r7, hgn.heap r8, r9.gn hgn⟩, ⟨q13, q14, q15, e4, r10, hgn.heap r11, r12.gn hgn⟩, hne⟩, (fun l u _ _ _ => ⟨fun h => by omega, fun h => by omega⟩)⟩
      refine wpD_cons (dmake fun w_ hJ hd hdd => ?_) wpD_nil
      · have e25 : ∃ b', (vals 25) = .pointer (some ⟨b', 0, none⟩) ∧ w.heap.size ≤ b' ∧ ∃ x1 x2 x3 x4, w_.heap[b']? = some (.cells #[x1, x2, x3, x4] 61 (0, 0)) ∧ (∃ g cap cur, x1 = .slice (some ⟨g, 0, none⟩) 16 cap ∧ w.heap.size ≤ g ∧ w_.heap[g]? = some (.cells cur 67 (0, 0)) ∧ Sl w_ 3 (.slice (some ⟨g, 0, none⟩) 16 cap) 16 (rws c)) ∧ (∃ g cap cur, x2 = .slice (some ⟨g, 0, none⟩) 64 cap ∧ w.heap.size ≤ g ∧ w_.heap[g]? = some (.cells cur 3 (0, 0)) ∧ Sl w_ 1 (.slice (some ⟨g, 0, none⟩) 64 cap) 64 (cts c)) ∧ (∃ g cap cur, x3 = .slice (some ⟨g, 0, none⟩) n cap ∧ w.heap.size ≤ g ∧ w_.heap[g]? = some (.cells cur 22 (0, 0)) ∧ Sl w_ 1 (.slice (some ⟨g, 0, none⟩) n cap) n (sks c)) ∧ (∃ g cap cur, x4 = .slice (some ⟨g, 0, none⟩) 6 cap ∧ w.heap.size ≤ g ∧ w_.heap[g]? = some (.cells cur 3 (0, 0)) ∧ Sl w_ 1 (.slice (some ⟨g, 0, none⟩) 6 cap) 6 (hts c)) ∧ sblk x2 ≠ sblk x4 := hd 25 (by decide) (by kernel_rfl)
        obtain ⟨b', eb, hb⟩ := e25
        rw [eb]
        exact ⟨by kernel_rfl, _, w_, (by kernel_rfl : _ = Result.ok (Next.value (.pointer (some ⟨b', 0, none⟩))) _), hJ, GN.refl _, ⟨b', rfl, hb⟩, (fun l u _ _ _ => ⟨fun h => by omega, fun h => by omega⟩)⟩
    · intro vals w_ hJ hf _
      have e1 : vals 1 = _ := hf 1 (by decide)
      have e2 : vals 2 = _ := hf 2 (by decide)
      have e3 : vals 3 = _ := hf 3 (by decide)
      have e4 : vals 4 = _ := hf 4 (by decide)
      have e7 : vals 7 = _ := hf 7 (by decide)
      have e8 : vals 8 = _ := hf 8 (by decide)
      have e9 : vals 9 = _ := hf 9 (by decide)
      have e10 : vals 10 = _ := hf 10 (by decide)
      have e13 : vals 13 = _ := hf 13 (by decide)
      have e14 : vals 14 = _ := hf 14 (by decide)
      have e15 : vals 15 = _ := hf 15 (by decide)
      have e16 : vals 16 = _ := hf 16 (by decide)
      have e19 : vals 19 = _ := hf 19 (by decide)
      have e20 : vals 20 = _ := hf 20 (by decide)
      have e21 : vals 21 = _ := hf 21 (by decide)
      have e22 : vals 22 = _ := hf 22 (by decide)
      have e26 : ∃ b', (vals 26) = .pointer (some ⟨b', 0, none⟩) ∧ w.heap.size ≤ b' ∧ ∃ x1 x2 x3 x4, w_.heap[b']? = some (.cells #[x1, x2, x3, x4] 61 (0, 0)) ∧ (∃ g cap cur, x1 = .slice (some ⟨g, 0, none⟩) 16 cap ∧ w.heap.size ≤ g ∧ w_.heap[g]? = some (.cells cur 67 (0, 0)) ∧ Sl w_ 3 (.slice (some ⟨g, 0, none⟩) 16 cap) 16 (rws c)) ∧ (∃ g cap cur, x2 = .slice (some ⟨g, 0, none⟩) 64 cap ∧ w.heap.size ≤ g ∧ w_.heap[g]? = some (.cells cur 3 (0, 0)) ∧ Sl w_ 1 (.slice (some ⟨g, 0, none⟩) 64 cap) 64 (cts c)) ∧ (∃ g cap cur, x3 = .slice (some ⟨g, 0, none⟩) n cap ∧ w.heap.size ≤ g ∧ w_.heap[g]? = some (.cells cur 22 (0, 0)) ∧ Sl w_ 1 (.slice (some ⟨g, 0, none⟩) n cap) n (sks c)) ∧ (∃ g cap cur, x4 = .slice (some ⟨g, 0, none⟩) 6 cap ∧ w.heap.size ≤ g ∧ w_.heap[g]? = some (.cells cur 3 (0, 0)) ∧ Sl w_ 1 (.slice (some ⟨g, 0, none⟩) 6 cap) 6 (hts c)) ∧ sblk x2 ≠ sblk x4 := hf 26 (by decide)
      simp only [fillG, Nat.zero_add, Nat.reduceAdd, e1, e2, e3, e4, e7, e8, e9, e10, e13, e14, e15, e16, e19, e20, e21, e22, Act.put, List.setIfInBounds_toArray, List.set_cons_succ, List.set_cons_zero]
      clear e1 e2 e3 e4 e7 e8 e9 e10 e13 e14 e15 e16 e19 e20 e21 e22 hf
      generalize vals 0 = v0
      generalize vals 5 = v5
      generalize vals 6 = v6
      generalize vals 11 = v11
      generalize vals 12 = v12
      generalize vals 17 = v17
      generalize vals 18 = v18
      generalize vals 23 = v23
      generalize vals 24 = v24
      generalize vals 25 = v25
      generalize vals 26 = v26 at *
      obtain ⟨b', rfl, hb0, x1, x2, x3, x4, hb, ⟨q1, q2, q3, rfl, r1, r2, r3⟩, ⟨q5, q6, q7, rfl, r4, r5, r6⟩, ⟨q9, q10, q11, rfl, r7, r8, r9⟩, ⟨q13, q14, q15, rfl, r10, r11, r12⟩, hne⟩ := e26
      have hfin := fresh5 hr hJ hb hb0 r2 r1 r3 r5 r4 r6 r8 r7 r9 r11 r10 r12 (by decide) (by decide) (by decide) (by decide) (by decide) (by decide) (by decide) (by decide) (by decide) (fun e => hne (by show some q5 = some q13; rw [e]))
      go_wp2
      go_ret
      exact ⟨b', rfl, rgn hn hI hfin.f5.soften.f5.f5.f5.f5⟩
end
end Go.Proofs.Ytabkkeniaepibaa
