/- Layer 13: a trap leaves all else alone: the walk. -/
import Derived.Test.YtijhlbkhcpkkdaaP10
namespace Go.Proofs.Ytijhlbkhcpkkdaa
open Go.RowKit

theorem wpList_load_guarded {P : Program} {ops : Array Oper} {Q : Exit → Act → World → Prop} {a : Act} {w : World} {rest : List Oper} {o : Oper} (t : TypeId) (x : Operand) (ho : o.op = .load t x) (hw : Region.wanted o (yielded ops a.tmps) = true) (p : Value) (hx : a.eval x = p) (v : Value) (hr : (Instr.loadAt t p).run P w = .ok v w)
    (h : wpList P ops Q rest (a.put o.dst v) w) : wpList P ops Q (o :: rest) a w := by
  unfold wpList
  rw [if_pos hw]
  refine .inl (wp_last_value ?_ h)
  unfold execOp
  simp only [ho, hx, Sem.run_bind, hr, Result.andThen_ok, Sem.run_pure]
theorem est_sup (c : St) (k pc cause tval : Int) : upd (est c (eSup c k pc cause tval) 15 16 17 (fun s => decide (s ∈ [7, 9, 11]))) 0 (c 0) = c := by
  funext j
  unfold upd est eSup upd
  by_cases h0 : j = 0
  · subst h0; simp
  · by_cases h1 : j = 15
    · subst h1; simp
    · by_cases h2 : j = 16
      · subst h2; simp
      · by_cases h3 : j = 17
        · subst h3; simp
        · simp [h0, h1, h2, h3]
theorem est_mach (c : St) (k pc cause tval : Int) : upd (est c (eMach c k pc cause tval) 6 7 8 (fun s => decide (s ∈ [7, 9, 11]))) 0 (c 0) = c := by
  funext j
  unfold upd est eMach upd
  by_cases h0 : j = 0
  · subst h0; simp
  · by_cases h1 : j = 6
    · subst h1; simp
    · by_cases h2 : j = 7
      · subst h2; simp
      · by_cases h3 : j = 8
        · subst h3; simp
        · simp [h0, h1, h2, h3]
theorem flat26 : flat Try.prog 8 26 = .some ks38 := by kernel_rfl
theorem named26 : named Try.prog 8 26 = true := by kernel_rfl
theorem kt26 : Try.prog.keyTypeAt 8 26 = true := by kernel_rfl
theorem formed26 (c : St) : (Value.agg (gl c).toArray).formed Try.prog 26 = true := by kernel_rfl
theorem fits_map (g : Nat → IntKind) (v : Nat → Int) : ∀ (l : List Nat), (∀ i ∈ l, (Lit.int (g i) (v i)).wf = true) → Fits (l.map fun i => .some (g i)) (l.map fun i => Value.int (g i) (v i))
  | [], _ => trivial
  | i :: l, h => ⟨⟨_, rfl, h i (by simp)⟩, fits_map g v l fun j hj => h j (by simp [hj])⟩
theorem fits_st {c : St} (hI : GI c) : Fits ks38 (gl c) := fits_map gk c (List.range 38) fun i hi => by
  unfold gk
  split
  · have := hI.b i (by omega) (by omega)
    simp [Lit.wf, IntKind.min, IntKind.max, IntKind.signed, IntKind.bits]; omega
  · have := hI.r i (by omega)
    simp [Lit.wf, IntKind.min, IntKind.max, IntKind.signed, IntKind.bits]; omega
theorem eql26 {c : St} (hI : GI c) (w : World) : (binOp .eql 26 (.agg (gl c).toArray) (.agg (gl c).toArray)).run Try.prog w = .ok (.bool true) w :=
  run_eql_same flat26 named26 kt26 (formed26 c) (fits_st hI)
set_option maxRecDepth 100000 in
set_option maxHeartbeats 2000000 in
theorem keeps_walk (c : St) (hI : GI c) (mode kind pc cause tval : Int) (p0 : 0 ≤ pc) (p1 : pc < 18446744073709551616) (c0 : 0 ≤ cause) (c1 : cause < 18446744073709551616) (t0 : 0 ≤ tval) (t1 : tval < 18446744073709551616) (w : World) :
    Calls Try.prog 7 #[.agg (gl c).toArray, .int .i64 mode, .int .i64 kind, .int .u64 pc, .int .u64 cause, .int .u64 tval] w fun e w' => e = .returned (.bool true) ∧ Below w.heap.size w w' := by
  have J0 := (Heap.nil w).new (gl c).toArray 26
  obtain ⟨b0, hb0⟩ : ∃ b, w.heap.size = b := ⟨_, rfl⟩
  have hz := zero26
  obtain ⟨m0, m1⟩ := hI.r 0 (by omega)
  go_enter Try.func7, Try.ntmps7
  go_wp2_with fail
  refine (awake_h J0).mono ?_
  rintro r w1 ⟨rfl, h1⟩
  rw [hb0] at h1
  clear J0
  have hlt1 := lt_of_heap' h1.heap
  have hr1 := range_blk h1.heap 0 38 (gl c) (by rw [List.drop_zero]; exact List.take_of_length_le (by rw [gl_len]; exact Nat.le_refl _))
  go_wp2_with (refine wpList_load_mid rfl 26 (.tmp 6) rfl b0 0 rfl (gl c) _ hr1 Try.underlying26 rfl (by rw [gl_len]; exact isz26) ?_
               refine unhide ?_)
  refine hide ?_
  clear hr1

  go_wp2_with fail
  refine (enter_h h1 hI mode pc cause tval p0 p1 c0 c1 t0 t1).mono ?_
  rintro r w2 ⟨hr, h2⟩
  clear hlt1
  rcases hr with ⟨hs, rfl⟩ | ⟨hs, rfl⟩
  · have hk := sup_k hs
    have Hown : Hid (bits .andNot .u64 (eSup c (known mode) pc cause tval 0) 290 = bits .andNot .u64 (c 0) 290) := hide (own_sup (c 0) (known mode) m0 m1 hk)
    have Hec := hide (est_sup c (known mode) pc cause tval)
    clear hs hk
    generalize eSup c (known mode) pc cause tval = d at *
    generalize vector (c 14) cause = at_ at *
    go_wp2_with (refine wpList_store_mid rfl 26 (.tmp 13) (.tmp 30) rfl w2.heap.size 0 (gl d).toArray rfl rfl ?_ (by rw [List.size_toArray, gl_len]; exact isz26) (gl_one _) ?_
                 rotate_left
                 refine unhide ?_)
    rotate_left
    · exact there_new _ _ _ (by first | rw [List.size_toArray, List.size_toArray, gl_len, gl_len] | rw [List.size_toArray, gl_len, gl_len])
    have h3 := h2.clone (gl Z0).toArray 26 (gl d) (by rw [List.size_toArray, gl_len, gl_len])
    change Hid (wpList _ _ _ _ _ (((w2.alloc (.cells (gl Z0).toArray 26)).setCells w2.heap.size 0 (gl d))))
    generalize (w2.alloc (.cells (gl Z0).toArray 26)).setCells w2.heap.size 0 (gl d) = w2s at *
    generalize w2.heap.size = bd at *
    refine hide ?_
    have hr3 := range_blk h3.heap 0 38 (gl d) (by rw [List.drop_zero]; exact List.take_of_length_le (by rw [gl_len]; exact Nat.le_refl _))
    go_wp2_with (refine wpList_load_mid rfl 26 (.tmp 13) rfl bd 0 rfl (gl d) _ hr3 Try.underlying26 rfl (by rw [gl_len]; exact isz26) ?_
                 refine unhide ?_)
    refine hide ?_
    clear hr3
    go_wp2_with (refine wpList_store_mid rfl 26 (.tmp 17) (.tmp 33) rfl w2s.heap.size 0 (gl d).toArray rfl rfl ?_ (by rw [List.size_toArray, gl_len]; exact isz26) (gl_one _) ?_
                 rotate_left
                 refine unhide ?_)
    rotate_left
    · exact there_new _ _ _ (by first | rw [List.size_toArray, List.size_toArray, gl_len, gl_len] | rw [List.size_toArray, gl_len, gl_len])
    have h4 := h3.clone (gl Z0).toArray 26 (gl d) (by rw [List.size_toArray, gl_len, gl_len])
    change Hid (wpList _ _ _ _ _ (((w2s.alloc (.cells (gl Z0).toArray 26)).setCells w2s.heap.size 0 (gl d))))
    generalize (w2s.alloc (.cells (gl Z0).toArray 26)).setCells w2s.heap.size 0 (gl d) = w2ss at *
    generalize w2s.heap.size = be at *
    refine hide ?_
    have h4 := h4.f2.tail
    have hlt4 := lt_of_heap' h4.heap
    go_wp2_with fail
    obtain ⟨vals, e0, e1, e2, e3, e4, e5, e6, e7, e8, e9, e10, e11⟩ : ∃ vals : Nat → Value, vals 0 = .pointer (some ⟨b0, 15, none⟩) ∧ vals 1 = .int .u64 (c 15) ∧ vals 2 = .pointer (some ⟨b0, 16, none⟩) ∧ vals 3 = .int .u64 (c 16) ∧ vals 4 = .pointer (some ⟨b0, 17, none⟩) ∧ vals 5 = .int .u64 (c 17) ∧ vals 6 = .pointer (some ⟨be, 15, none⟩) ∧ vals 7 = undef ∧ vals 8 = .pointer (some ⟨be, 16, none⟩) ∧ vals 9 = undef ∧ vals 10 = .pointer (some ⟨be, 17, none⟩) ∧ vals 11 = undef :=
      ⟨fun k_ => match k_ with
        | 0 => .pointer (some ⟨b0, 15, none⟩)
        | 1 => .int .u64 (c 15)
        | 2 => .pointer (some ⟨b0, 16, none⟩)
        | 3 => .int .u64 (c 16)
        | 4 => .pointer (some ⟨b0, 17, none⟩)
        | 5 => .int .u64 (c 17)
        | 6 => .pointer (some ⟨be, 15, none⟩)
        | 7 => undef
        | 8 => .pointer (some ⟨be, 16, none⟩)
        | 9 => undef
        | 10 => .pointer (some ⟨be, 17, none⟩)
        | _ => undef
        , rfl, rfl, rfl, rfl, rfl, rfl, rfl, rfl, rfl, rfl, rfl, rfl⟩
    refine wp_region_V (JE [7, 9, 11] (fun f w_ => Heap w w_ [HP.blk be (gl (est c d 15 16 17 f)).toArray 26, HP.blk b0 (gl c).toArray 26])) vals fol (by kernel_rfl) (JE.start ?_) ?_ ?_
    · rw [est_none]; exact h4.drew
    · show wpV _ _ _ _ 0 (_ :: _) _
      refine wpV_cons e0 (jeVal (by decide) (.pointer (some ⟨b0, 15, none⟩)) fun f w_ hK => ?_) ?_
      · exact ⟨by kernel_rfl, by kernel_rfl⟩
      refine wpV_cons e1 (jeOp (by decide) (Instr.loadAt 22 (.pointer (some ⟨b0, 15, none⟩))) (.int .u64 (c 15)) fun f w_ hK => ?_) ?_
      · exact ⟨by kernel_rfl, by kernel_rfl, run_load1 (by kernel_rfl) (gcell hK.f2.heap (i := 15) (by omega)).1⟩
      refine wpV_cons e2 (jeVal (by decide) (.pointer (some ⟨b0, 16, none⟩)) fun f w_ hK => ?_) ?_
      · exact ⟨by kernel_rfl, by kernel_rfl⟩
      refine wpV_cons e3 (jeOp (by decide) (Instr.loadAt 22 (.pointer (some ⟨b0, 16, none⟩))) (.int .u64 (c 16)) fun f w_ hK => ?_) ?_
      · exact ⟨by kernel_rfl, by kernel_rfl, run_load1 (by kernel_rfl) (gcell hK.f2.heap (i := 16) (by omega)).1⟩
      refine wpV_cons e4 (jeVal (by decide) (.pointer (some ⟨b0, 17, none⟩)) fun f w_ hK => ?_) ?_
      · exact ⟨by kernel_rfl, by kernel_rfl⟩
      refine wpV_cons e5 (jeOp (by decide) (Instr.loadAt 22 (.pointer (some ⟨b0, 17, none⟩))) (.int .u64 (c 17)) fun f w_ hK => ?_) ?_
      · exact ⟨by kernel_rfl, by kernel_rfl, run_load1 (by kernel_rfl) (gcell hK.f2.heap (i := 17) (by omega)).1⟩
      refine wpV_cons e6 (jeVal (by decide) (.pointer (some ⟨be, 15, none⟩)) fun f w_ hK => ?_) ?_
      · exact ⟨by kernel_rfl, by kernel_rfl⟩
      refine wpV_cons e7 (jeStore (by decide) (Instr.storeAt 22 (.pointer (some ⟨be, 15, none⟩)) (.int .u64 (c 15))) fun f w_ hK => ?_) ?_
      · exact ⟨by kernel_rfl, by kernel_rfl, _, run_store1 (by kernel_rfl) rfl rfl (gcell hK.heap (i := 15) (by omega)).1 (gcell hK.heap (i := 15) (by omega)).2, by rw [est_A (by decide)]; exact hK.gset 15 (c 15) (k := .u64) rfl⟩
      refine wpV_cons e8 (jeVal (by decide) (.pointer (some ⟨be, 16, none⟩)) fun f w_ hK => ?_) ?_
      · exact ⟨by kernel_rfl, by kernel_rfl⟩
      refine wpV_cons e9 (jeStore (by decide) (Instr.storeAt 22 (.pointer (some ⟨be, 16, none⟩)) (.int .u64 (c 16))) fun f w_ hK => ?_) ?_
      · exact ⟨by kernel_rfl, by kernel_rfl, _, run_store1 (by kernel_rfl) rfl rfl (gcell hK.heap (i := 16) (by omega)).1 (gcell hK.heap (i := 16) (by omega)).2, by rw [est_B (by decide)]; exact hK.gset 16 (c 16) (k := .u64) rfl⟩
      refine wpV_cons e10 (jeVal (by decide) (.pointer (some ⟨be, 17, none⟩)) fun f w_ hK => ?_) ?_
      · exact ⟨by kernel_rfl, by kernel_rfl⟩
      refine wpV_cons e11 (jeStore (by decide) (Instr.storeAt 22 (.pointer (some ⟨be, 17, none⟩)) (.int .u64 (c 17))) fun f w_ hK => ?_) wpV_nil
      · exact ⟨by kernel_rfl, by kernel_rfl, _, run_store1 (by kernel_rfl) rfl rfl (gcell hK.heap (i := 17) (by omega)).1 (gcell hK.heap (i := 17) (by omega)).2, by rw [est_C (by decide)]; exact hK.gset 17 (c 17) (k := .u64) rfl⟩
    · intro w_ hJ2
      have h5 := hJ2.done (by decide)
      clear hJ2
      simp only [fillG, Nat.zero_add, Nat.reduceAdd, e0, e1, e2, e3, e4, e5, e6, e7, e8, e9, e10, e11, Act.put, List.setIfInBounds_toArray, List.set_cons_succ, List.set_cons_zero]
      clear e0 e1 e2 e3 e4 e5 e6 e7 e8 e9 e10 e11
      clear h4 hlt4
      obtain ⟨e, he⟩ : ∃ e, est c d 15 16 17 (fun s => decide (s ∈ [7, 9, 11])) = e := ⟨_, rfl⟩
      rw [he] at h5
      have he0 : e 0 = d 0 := by rw [← he]; rfl
      have Hec2 : Hid (upd e 0 (c 0) = c) := hide (by rw [← he]; exact unhide Hec)
      have eA : bits .andNot .u64 (e 0) 290 = bits .andNot .u64 (c 0) 290 := by rw [he0]; exact unhide Hown
      clear he he0
      have hlt5 := lt_of_heap' h5.heap
      have hlt6 := lt_of_heap' h5.f2.heap
      have xe := gcell h5.heap (i := 0) (by omega)
      have xc := gcell h5.f2.heap (i := 0) (by omega)
      rw [show gk 0 = .u64 from rfl] at xe xc
      have h6 := h5.gset 0 (c 0) (k := .u64) rfl
      rw [unhide Hec2] at h6
      have hr6 := range_blk h6.f2.heap 0 38 (gl c) (by rw [List.drop_zero]; exact List.take_of_length_le (by rw [gl_len]; exact Nat.le_refl _))
      clear h5
      go_wp2_with (refine wpList_load_mid rfl 26 (.tmp 6) rfl b0 0 rfl (gl c) _ hr6 Try.underlying26 rfl (by rw [gl_len]; exact isz26) ?_
                   refine unhide ?_)
      clear hr6 xe xc hlt5 hlt6 eA
      generalize w_.setCell ⟨be, 0, none⟩ (.int .u64 (c 0)) = w6 at *
      refine hide ?_
      go_wp2_with fail
      refine (return_h h6 hI kind).mono ?_
      rintro r w7 ⟨rfl, h7⟩
      have hrc := rOut_c c kind
      have Hrc := hide hrc
      clear hrc h6
      generalize rOut c kind = q at *
      obtain ⟨f, mq, aq⟩ := q
      simp only
      go_wp2_with (refine wpList_store_mid rfl 26 (.tmp 18) (.tmp 70) rfl w7.heap.size 0 (gl f).toArray rfl rfl ?_ (by rw [List.size_toArray, gl_len]; exact isz26) (gl_one _) ?_
                   rotate_left
                   refine unhide ?_)
      rotate_left
      · exact there_new _ _ _ (by first | rw [List.size_toArray, List.size_toArray, gl_len, gl_len] | rw [List.size_toArray, gl_len, gl_len])
      have h8 := h7.clone (gl Z0).toArray 26 (gl f) (by rw [List.size_toArray, gl_len, gl_len])
      change Hid (wpList _ _ _ _ _ (((w7.alloc (.cells (gl Z0).toArray 26)).setCells w7.heap.size 0 (gl f))))
      generalize (w7.alloc (.cells (gl Z0).toArray 26)).setCells w7.heap.size 0 (gl f) = w7s at *
      generalize w7.heap.size = bf at *
      refine hide ?_

      have hlt8 := lt_of_heap' h8.heap
      have hlt9 := lt_of_heap' h8.f3.heap
      have xf := gcell h8.heap (i := 0) (by omega)
      have xc := gcell h8.f3.heap (i := 0) (by omega)
      rw [show gk 0 = .u64 from rfl] at xf xc
      have h9 := h8.gset 0 (c 0) (k := .u64) rfl
      rw [show upd f 0 (c 0) = c from unhide Hrc] at h9
      go_upto_region 15 with fail
      clear xf xc hlt8 hlt9 h8
      generalize w7s.setCell ⟨bf, 0, none⟩ (.int .u64 (c 0)) = w9 at *
      have hbel := hide h9.below
      have hrF := range_blk h9.heap 0 38 (gl c) (by rw [List.drop_zero]; exact List.take_of_length_le (by rw [gl_len]; exact Nat.le_refl _))
      have hrE := range_blk h9.f2.heap 0 38 (gl c) (by rw [List.drop_zero]; exact List.take_of_length_le (by rw [gl_len]; exact Nat.le_refl _))
      have hrC := range_blk h9.f3.heap 0 38 (gl c) (by rw [List.drop_zero]; exact List.take_of_length_le (by rw [gl_len]; exact Nat.le_refl _))
      have hq := eql26 hI
      have lF := fun (hF : w9.heap[bf]? = some (.cells (gl c).toArray 26 (0, 0))) => load_gl hF
      have LF := load_gl h9.heap
      have LC := load_gl h9.f3.heap
      clear lF
      go_wp2_with (refine wpList_load_mid rfl 26 (.tmp 17) rfl be 0 rfl (gl c) _ hrE Try.underlying26 rfl (by rw [gl_len]; exact isz26) ?_
                   refine unhide ?_)
      refine hide ?_
      go_wp2_with (refine wpList_load_mid rfl 26 (.tmp 6) rfl b0 0 rfl (gl c) _ hrC Try.underlying26 rfl (by rw [gl_len]; exact isz26) ?_
                   refine unhide ?_)
      refine hide ?_
      clear hrF hrE hrC h7 h9
      go_wp2_with (first
        | (refine wpList_load_guarded 26 (.tmp 18) rfl (by kernel_rfl) (.pointer (some ⟨bf, 0, none⟩)) rfl (.agg (gl c).toArray) LF ?_)
        | (refine wpList_load_guarded 26 (.tmp 6) rfl (by kernel_rfl) (.pointer (some ⟨b0, 0, none⟩)) rfl (.agg (gl c).toArray) LC ?_))
      go_ret
      exact ⟨rfl, unhide hbel⟩

  · have hk := known_cases mode
    have Hown : Hid (bits .andNot .u64 (eMach c (known mode) pc cause tval 0) 6280 = bits .andNot .u64 (c 0) 6280) := hide (own_mach (c 0) (known mode) m0 m1 hk)
    have Hec := hide (est_mach c (known mode) pc cause tval)
    clear hs hk
    generalize eMach c (known mode) pc cause tval = d at *
    generalize vector (c 1) cause = at_ at *
    go_wp2_with (refine wpList_store_mid rfl 26 (.tmp 13) (.tmp 30) rfl w2.heap.size 0 (gl d).toArray rfl rfl ?_ (by rw [List.size_toArray, gl_len]; exact isz26) (gl_one _) ?_
                 rotate_left
                 refine unhide ?_)
    rotate_left
    · exact there_new _ _ _ (by first | rw [List.size_toArray, List.size_toArray, gl_len, gl_len] | rw [List.size_toArray, gl_len, gl_len])
    have h3 := h2.clone (gl Z0).toArray 26 (gl d) (by rw [List.size_toArray, gl_len, gl_len])
    change Hid (wpList _ _ _ _ _ (((w2.alloc (.cells (gl Z0).toArray 26)).setCells w2.heap.size 0 (gl d))))
    generalize (w2.alloc (.cells (gl Z0).toArray 26)).setCells w2.heap.size 0 (gl d) = w2s at *
    generalize w2.heap.size = bd at *
    refine hide ?_
    have hr3 := range_blk h3.heap 0 38 (gl d) (by rw [List.drop_zero]; exact List.take_of_length_le (by rw [gl_len]; exact Nat.le_refl _))
    go_wp2_with (refine wpList_load_mid rfl 26 (.tmp 13) rfl bd 0 rfl (gl d) _ hr3 Try.underlying26 rfl (by rw [gl_len]; exact isz26) ?_
                 refine unhide ?_)
    refine hide ?_
    clear hr3
    go_wp2_with (refine wpList_store_mid rfl 26 (.tmp 17) (.tmp 33) rfl w2s.heap.size 0 (gl d).toArray rfl rfl ?_ (by rw [List.size_toArray, gl_len]; exact isz26) (gl_one _) ?_
                 rotate_left
                 refine unhide ?_)
    rotate_left
    · exact there_new _ _ _ (by first | rw [List.size_toArray, List.size_toArray, gl_len, gl_len] | rw [List.size_toArray, gl_len, gl_len])
    have h4 := h3.clone (gl Z0).toArray 26 (gl d) (by rw [List.size_toArray, gl_len, gl_len])
    change Hid (wpList _ _ _ _ _ (((w2s.alloc (.cells (gl Z0).toArray 26)).setCells w2s.heap.size 0 (gl d))))
    generalize (w2s.alloc (.cells (gl Z0).toArray 26)).setCells w2s.heap.size 0 (gl d) = w2ss at *
    generalize w2s.heap.size = be at *
    refine hide ?_
    have h4 := h4.f2.tail
    have hlt4 := lt_of_heap' h4.heap
    go_wp2_with fail
    obtain ⟨vals, e0, e1, e2, e3, e4, e5, e6, e7, e8, e9, e10, e11⟩ : ∃ vals : Nat → Value, vals 0 = .pointer (some ⟨b0, 6, none⟩) ∧ vals 1 = .int .u64 (c 6) ∧ vals 2 = .pointer (some ⟨b0, 7, none⟩) ∧ vals 3 = .int .u64 (c 7) ∧ vals 4 = .pointer (some ⟨b0, 8, none⟩) ∧ vals 5 = .int .u64 (c 8) ∧ vals 6 = .pointer (some ⟨be, 6, none⟩) ∧ vals 7 = undef ∧ vals 8 = .pointer (some ⟨be, 7, none⟩) ∧ vals 9 = undef ∧ vals 10 = .pointer (some ⟨be, 8, none⟩) ∧ vals 11 = undef :=
      ⟨fun k_ => match k_ with
        | 0 => .pointer (some ⟨b0, 6, none⟩)
        | 1 => .int .u64 (c 6)
        | 2 => .pointer (some ⟨b0, 7, none⟩)
        | 3 => .int .u64 (c 7)
        | 4 => .pointer (some ⟨b0, 8, none⟩)
        | 5 => .int .u64 (c 8)
        | 6 => .pointer (some ⟨be, 6, none⟩)
        | 7 => undef
        | 8 => .pointer (some ⟨be, 7, none⟩)
        | 9 => undef
        | 10 => .pointer (some ⟨be, 8, none⟩)
        | _ => undef
        , rfl, rfl, rfl, rfl, rfl, rfl, rfl, rfl, rfl, rfl, rfl, rfl⟩
    refine wp_region_V (JE [7, 9, 11] (fun f w_ => Heap w w_ [HP.blk be (gl (est c d 6 7 8 f)).toArray 26, HP.blk b0 (gl c).toArray 26])) vals fol (by kernel_rfl) (JE.start ?_) ?_ ?_
    · rw [est_none]; exact h4.drew
    · show wpV _ _ _ _ 0 (_ :: _) _
      refine wpV_cons e0 (jeVal (by decide) (.pointer (some ⟨b0, 6, none⟩)) fun f w_ hK => ?_) ?_
      · exact ⟨by kernel_rfl, by kernel_rfl⟩
      refine wpV_cons e1 (jeOp (by decide) (Instr.loadAt 22 (.pointer (some ⟨b0, 6, none⟩))) (.int .u64 (c 6)) fun f w_ hK => ?_) ?_
      · exact ⟨by kernel_rfl, by kernel_rfl, run_load1 (by kernel_rfl) (gcell hK.f2.heap (i := 6) (by omega)).1⟩
      refine wpV_cons e2 (jeVal (by decide) (.pointer (some ⟨b0, 7, none⟩)) fun f w_ hK => ?_) ?_
      · exact ⟨by kernel_rfl, by kernel_rfl⟩
      refine wpV_cons e3 (jeOp (by decide) (Instr.loadAt 22 (.pointer (some ⟨b0, 7, none⟩))) (.int .u64 (c 7)) fun f w_ hK => ?_) ?_
      · exact ⟨by kernel_rfl, by kernel_rfl, run_load1 (by kernel_rfl) (gcell hK.f2.heap (i := 7) (by omega)).1⟩
      refine wpV_cons e4 (jeVal (by decide) (.pointer (some ⟨b0, 8, none⟩)) fun f w_ hK => ?_) ?_
      · exact ⟨by kernel_rfl, by kernel_rfl⟩
      refine wpV_cons e5 (jeOp (by decide) (Instr.loadAt 22 (.pointer (some ⟨b0, 8, none⟩))) (.int .u64 (c 8)) fun f w_ hK => ?_) ?_
      · exact ⟨by kernel_rfl, by kernel_rfl, run_load1 (by kernel_rfl) (gcell hK.f2.heap (i := 8) (by omega)).1⟩
      refine wpV_cons e6 (jeVal (by decide) (.pointer (some ⟨be, 6, none⟩)) fun f w_ hK => ?_) ?_
      · exact ⟨by kernel_rfl, by kernel_rfl⟩
      refine wpV_cons e7 (jeStore (by decide) (Instr.storeAt 22 (.pointer (some ⟨be, 6, none⟩)) (.int .u64 (c 6))) fun f w_ hK => ?_) ?_
      · exact ⟨by kernel_rfl, by kernel_rfl, _, run_store1 (by kernel_rfl) rfl rfl (gcell hK.heap (i := 6) (by omega)).1 (gcell hK.heap (i := 6) (by omega)).2, by rw [est_A (by decide)]; exact hK.gset 6 (c 6) (k := .u64) rfl⟩
      refine wpV_cons e8 (jeVal (by decide) (.pointer (some ⟨be, 7, none⟩)) fun f w_ hK => ?_) ?_
      · exact ⟨by kernel_rfl, by kernel_rfl⟩
      refine wpV_cons e9 (jeStore (by decide) (Instr.storeAt 22 (.pointer (some ⟨be, 7, none⟩)) (.int .u64 (c 7))) fun f w_ hK => ?_) ?_
      · exact ⟨by kernel_rfl, by kernel_rfl, _, run_store1 (by kernel_rfl) rfl rfl (gcell hK.heap (i := 7) (by omega)).1 (gcell hK.heap (i := 7) (by omega)).2, by rw [est_B (by decide)]; exact hK.gset 7 (c 7) (k := .u64) rfl⟩
      refine wpV_cons e10 (jeVal (by decide) (.pointer (some ⟨be, 8, none⟩)) fun f w_ hK => ?_) ?_
      · exact ⟨by kernel_rfl, by kernel_rfl⟩
      refine wpV_cons e11 (jeStore (by decide) (Instr.storeAt 22 (.pointer (some ⟨be, 8, none⟩)) (.int .u64 (c 8))) fun f w_ hK => ?_) wpV_nil
      · exact ⟨by kernel_rfl, by kernel_rfl, _, run_store1 (by kernel_rfl) rfl rfl (gcell hK.heap (i := 8) (by omega)).1 (gcell hK.heap (i := 8) (by omega)).2, by rw [est_C (by decide)]; exact hK.gset 8 (c 8) (k := .u64) rfl⟩
    · intro w_ hJ2
      have h5 := hJ2.done (by decide)
      clear hJ2
      simp only [fillG, Nat.zero_add, Nat.reduceAdd, e0, e1, e2, e3, e4, e5, e6, e7, e8, e9, e10, e11, Act.put, List.setIfInBounds_toArray, List.set_cons_succ, List.set_cons_zero]
      clear e0 e1 e2 e3 e4 e5 e6 e7 e8 e9 e10 e11
      clear h4 hlt4
      obtain ⟨e, he⟩ : ∃ e, est c d 6 7 8 (fun s => decide (s ∈ [7, 9, 11])) = e := ⟨_, rfl⟩
      rw [he] at h5
      have he0 : e 0 = d 0 := by rw [← he]; rfl
      have Hec2 : Hid (upd e 0 (c 0) = c) := hide (by rw [← he]; exact unhide Hec)
      have eA : bits .andNot .u64 (e 0) 6280 = bits .andNot .u64 (c 0) 6280 := by rw [he0]; exact unhide Hown
      clear he he0
      have hlt5 := lt_of_heap' h5.heap
      have hlt6 := lt_of_heap' h5.f2.heap
      have xe := gcell h5.heap (i := 0) (by omega)
      have xc := gcell h5.f2.heap (i := 0) (by omega)
      rw [show gk 0 = .u64 from rfl] at xe xc
      have h6 := h5.gset 0 (c 0) (k := .u64) rfl
      rw [unhide Hec2] at h6
      have hr6 := range_blk h6.f2.heap 0 38 (gl c) (by rw [List.drop_zero]; exact List.take_of_length_le (by rw [gl_len]; exact Nat.le_refl _))
      clear h5
      go_wp2_with (refine wpList_load_mid rfl 26 (.tmp 6) rfl b0 0 rfl (gl c) _ hr6 Try.underlying26 rfl (by rw [gl_len]; exact isz26) ?_
                   refine unhide ?_)
      clear hr6 xe xc hlt5 hlt6 eA
      generalize w_.setCell ⟨be, 0, none⟩ (.int .u64 (c 0)) = w6 at *
      refine hide ?_
      go_wp2_with fail
      refine (return_h h6 hI kind).mono ?_
      rintro r w7 ⟨rfl, h7⟩
      have hrc := rOut_c c kind
      have Hrc := hide hrc
      clear hrc h6
      generalize rOut c kind = q at *
      obtain ⟨f, mq, aq⟩ := q
      simp only
      go_wp2_with (refine wpList_store_mid rfl 26 (.tmp 18) (.tmp 70) rfl w7.heap.size 0 (gl f).toArray rfl rfl ?_ (by rw [List.size_toArray, gl_len]; exact isz26) (gl_one _) ?_
                   rotate_left
                   refine unhide ?_)
      rotate_left
      · exact there_new _ _ _ (by first | rw [List.size_toArray, List.size_toArray, gl_len, gl_len] | rw [List.size_toArray, gl_len, gl_len])
      have h8 := h7.clone (gl Z0).toArray 26 (gl f) (by rw [List.size_toArray, gl_len, gl_len])
      change Hid (wpList _ _ _ _ _ (((w7.alloc (.cells (gl Z0).toArray 26)).setCells w7.heap.size 0 (gl f))))
      generalize (w7.alloc (.cells (gl Z0).toArray 26)).setCells w7.heap.size 0 (gl f) = w7s at *
      generalize w7.heap.size = bf at *
      refine hide ?_

      have hlt8 := lt_of_heap' h8.heap
      have hlt9 := lt_of_heap' h8.f3.heap
      have xf := gcell h8.heap (i := 0) (by omega)
      have xc := gcell h8.f3.heap (i := 0) (by omega)
      rw [show gk 0 = .u64 from rfl] at xf xc
      have h9 := h8.gset 0 (c 0) (k := .u64) rfl
      rw [show upd f 0 (c 0) = c from unhide Hrc] at h9
      go_upto_region 15 with fail
      clear xf xc hlt8 hlt9 h8
      generalize w7s.setCell ⟨bf, 0, none⟩ (.int .u64 (c 0)) = w9 at *
      have hbel := hide h9.below
      have hrF := range_blk h9.heap 0 38 (gl c) (by rw [List.drop_zero]; exact List.take_of_length_le (by rw [gl_len]; exact Nat.le_refl _))
      have hrE := range_blk h9.f2.heap 0 38 (gl c) (by rw [List.drop_zero]; exact List.take_of_length_le (by rw [gl_len]; exact Nat.le_refl _))
      have hrC := range_blk h9.f3.heap 0 38 (gl c) (by rw [List.drop_zero]; exact List.take_of_length_le (by rw [gl_len]; exact Nat.le_refl _))
      have hq := eql26 hI
      have lF := fun (hF : w9.heap[bf]? = some (.cells (gl c).toArray 26 (0, 0))) => load_gl hF
      have LF := load_gl h9.heap
      have LC := load_gl h9.f3.heap
      clear lF
      go_wp2_with (refine wpList_load_mid rfl 26 (.tmp 17) rfl be 0 rfl (gl c) _ hrE Try.underlying26 rfl (by rw [gl_len]; exact isz26) ?_
                   refine unhide ?_)
      refine hide ?_
      go_wp2_with (refine wpList_load_mid rfl 26 (.tmp 6) rfl b0 0 rfl (gl c) _ hrC Try.underlying26 rfl (by rw [gl_len]; exact isz26) ?_
                   refine unhide ?_)
      refine hide ?_
      clear hrF hrE hrC h7 h9
      go_wp2_with (first
        | (refine wpList_load_guarded 26 (.tmp 18) rfl (by kernel_rfl) (.pointer (some ⟨bf, 0, none⟩)) rfl (.agg (gl c).toArray) LF ?_)
        | (refine wpList_load_guarded 26 (.tmp 6) rfl (by kernel_rfl) (.pointer (some ⟨b0, 0, none⟩)) rfl (.agg (gl c).toArray) LC ?_))
      go_ret
      exact ⟨rfl, unhide hbel⟩

end Go.Proofs.Ytijhlbkhcpkkdaa
