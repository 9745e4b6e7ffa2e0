/- Layer 20: the walk of FetchStops. -/
import Derived.Test.YtblbgalpkodibaaDoorF8
import Derived.Deep.CutRange
namespace Go.Proofs.YtblbgalpkodibaaDoor
open Go.RowKit Go.Shelf
attribute [local go_sem] Oper.semAt_some
section
set_option maxRecDepth 100000 in
set_option maxHeartbeats 4000000 in
theorem stops_walk (seed pc cause tgt : Int) (hs : 0 ≤ seed ∧ seed < 18446744073709551616) (hp : 0 ≤ pc ∧ pc < 18446744073709551616) (hu : 0 ≤ cause ∧ cause < 18446744073709551616) (ht : 0 ≤ tgt ∧ tgt < 18446744073709551616)
    (A : Option Addr) (n cap : Nat) (W : World) (hT : Tab W) (hS : SlArg [some .u16] W A n) (hn : n ≤ 70368744177664) :
    Calls Tryd.prog 4 #[.int .u64 seed, .int .u64 pc, .slice A n cap, .int .u64 cause, .int .u64 tgt] W fun e w' => e = .returned (.bool true) ∧ Below W.heap.size W w' := by
  obtain ⟨X, hX⟩ := half_fun hS
  have HX := hide hX
  have HT := hide hT
  clear hS hX hT
  refine (callsIn_wide (n := 6)).1 ?_
  refine callsIn_of_wp_marks Tryd.func4 rfl trivial ?_ rfl
  simp only [Tryd.ntmps4, List.size_toArray, List.length_cons, List.length_nil, Nat.reduceAdd, Nat.reduceSub, Array.replicate_succ, Array.replicate_zero, List.push_toArray, List.append_toArray, List.nil_append, List.cons_append]
  refine (wpIn_wide (n := 6)).2 ?_
  go_wp2_with fail
  refine (fixed_f (unhide HT) (Heap.nil W)).mono ?_
  rintro r w1 ⟨rfl, h1⟩
  have H := hide h1
  clear h1
  go_wp2_with fail
  refine (new_h (unhide H) seed hs.1 hs.2).mono ?_
  rintro r w2 ⟨g, rfl, h1⟩
  generalize c0 seed = c at h1
  have H := hide h1
  clear h1
  go_wp2_with fail
  refine (new_f (g := g) (unhide H) pc hp.1 hp.2).mono ?_
  rintro r w3 ⟨b, rfl, h1⟩
  generalize newF pc = F at h1
  have H := hide h1
  clear h1
  go_wp2
  go_loopw [12] (fun s wr => ∃ (k : Nat) (F : Fr) (c : St), s = .int .i64 k ∧ k ≤ n ∧ Heap W wr [HP.fr b g F, HP.gg g c]) (fun s _ => n - (intOf s).toNat)
  case atStart => exact ⟨0, F, c, rfl, Nat.zero_le _, unhide H⟩
  case round =>
    clear H
    obtain ⟨k, F, c, rfl, hk, hJ⟩ := hrel
    by_cases hlt : k < n
    · obtain ⟨hx, hat⟩ := unhide HX k hlt
      obtain ⟨ab, ao, rfl, c0, hab⟩ := hat wr hJ.below
      generalize X k = h at hx c0
      have HJ := hide hJ
      clear hJ hat
      go_wp2_with fail
      refine (give_f ((unhide HT).at (unhide HJ)) (unhide HJ) h hx).mono ?_
      rintro r w4 ⟨rfl, h4⟩
      clear HJ c0 hab
      go_wp2
      go_roundw
      case rel => exact ⟨k + 1, _, _, by simp, by omega, h4⟩
      case measure => simp [intOf]; omega
    · obtain rfl : k = n := by omega
      obtain ⟨A1, cap1, hC, hh⟩ := hJ.fc
      have hI := hC.I
      have hJ0 := ((hh.emptyW (sz := 13) 38).new ([.slice (some ⟨wr.heap.size, 0, none⟩) 0 0] : List Value).toArray 45).new #[.pointer (some ⟨b, 0, none⟩)] 25
      obtain ⟨ke, hke⟩ : ∃ k, wr.heap.size = k := ⟨_, rfl⟩
      clear hJ hC hh
      go_wp2_with fail
      refine (items_f _ b).mono ?_
      rintro r w9 ⟨rfl, rfl⟩
      simp only [World.size_alloc, hke] at hJ0
      go_wp2_with fail
      obtain ⟨kb, hkb⟩ : ∃ k, ke + 1 = k := ⟨_, rfl⟩
      obtain ⟨box, hbox⟩ : ∃ k, kb + 1 = k := ⟨_, rfl⟩
      rw [hkb] at hJ0 ⊢
      rw [hbox] at hJ0 ⊢
      generalize (((wr.alloc (.cells #[] 38)).alloc (.cells ([.slice (some ⟨ke, 0, none⟩) 0 0] : List Value).toArray 45)).alloc (.cells #[.pointer (some ⟨b, 0, none⟩)] 25)) = W1 at hJ0 ⊢
      unfold FB at hJ0
      have hJ1 := Heap.sort (L1 := [_, _, _, _, _]) (L2 := [_, _, _, _, _]) hJ0 [1, 2, 0, 3, 4] rfl rfl (by decide)
      have hJ1 := Heap.sort (L1 := [_, _, _, _]) (L2 := [_, _, _, _]) ((Heap.ah (l := [])).2 ⟨_, hJ1⟩) [1, 2, 3, 0] rfl rfl (by decide)
      clear hJ0 hkb hbox hke
      refine range_items (γ := Unit) (fun pre => [HP.ah kb pre, HP.gg g c]) (fun _ => True) (fun _ _ _ => False) (fun _ => []) rfl hI rfl rfl rfl rfl rfl rfl (s := 14) (show 47 < 144 by decide) (show 14 < 144 by decide) (by decide)
        (fun _ => .ah (.gg .nil)) (fun _ => .nil) trivial hJ1 ?body ?done (fun _ _ _ _ _ h _ _ => h.elim)
      case body =>
        rintro l pre x kx W2 _ hlt hkB hkx hB
        simp only [List.setIfInBounds_toArray, List.set_cons_succ, List.set_cons_zero]
        obtain ⟨i0, hi0, hz0, hz1, hz2⟩ := info_parts info38
        have hlen := hI.len
        unfold FB at hB
        obtain ⟨v, hB⟩ := Heap.ah.1 (hB.nth 3 rfl)
        have hk0 : W2.cell? ⟨kb, 0, none⟩ = some v := (cell_blk (Heap.heap hB) 0).1
        have hkbl := lt_of_heap' (Heap.heap hB)
        have hkxl := lt_of_heap' hkx
        have Hk := hide (range_blk hkx 0 13 (itl x) rfl)
        have HB := hide hB
        clear hB hkx
        gi_wp2_with (refine listIn_of rfl (by intro c hc; cases hc) fun K_ hK_ => ?_; have HK_ := hide hK_; clear hK_; refine wp_load_mid 38 (.tmp 14) rfl kx 0 rfl (itl x) _ (unhide Hk) Tryd.underlying38 rfl (by kernel_rfl) ?_)
        refine unhide HK_ _ _ ?_
        refine listIn_of rfl (by intro c hc; cases hc) fun K_ hK_ => wp_last_value (v := .slice (some ⟨W2.heap.size, 0, none⟩) 1 1) (w' := W2.alloc (.cells (itl x).toArray 38)) (by kernel_rfl) (hK_ _ _ ?_)
        have hB := (unhide HB).alloc (.cells (itl x).toArray 38)
        have hu := Sl.row W2 38 (itl x) rfl
        have hz : W2.heap.size ≤ (W2.alloc (.cells (itl x).toArray 38)).heap.size := by simp
        generalize W2.alloc (.cells (itl x).toArray 38) = W3 at hB hu hz ⊢
        refine listIn_of rfl (by intro c hc; cases hc) fun K_ hK_ => wp_append_sl (.tmp 48) (.tmp 50) 45 rfl 38 i0 _ 13 96 Tryd.underlying45 hi0 hz0 hz1 hz2 rfl rfl rfl hB.f2.slw hu (itl_cell x) (by omega) (by omega) (fun v' W4 hsl hgr hblk _ => hK_ _ _ ?_)
        have hA := hB.f2.appendw hsl hgr hblk
        have hz := Nat.le_trans hz hgr.size
        obtain ⟨A3, cap3, rfl, _⟩ := hsl.parts
        have k0 : W4.cell? ⟨kb, 0, none⟩ = some v := (cell_blk (Heap.heap hA.f2) 0).1
        have k0f := (cell_blk (Heap.heap hA.f2) 0).2
        have kbl := lt_of_heap' (Heap.heap hA.f2)
        have HA := hide hA
        clear hA hB hu hsl hgr hblk HB Hk HK_ hk0 hkbl hkxl
        gi_wp2
        refine ⟨by rw [size_setCell]; exact hz, trivial, ?_⟩
        have h5 := (unhide HA).f2.setl 0 (.slice A3 (pre.length + 1) cap3)
        rw [show pre.length + 1 = (pre ++ [x]).length by simp, ← itsC_snoc] at h5
        have h6 := Heap.sort (L1 := [_, _, _, _]) (L2 := [_, _, _, _]) (Heap.ah.2 ⟨_, h5⟩) [1, 2, 3, 0] rfl rfl (by decide)
        rw [show pre.length + 1 = (pre ++ [x]).length by simp]
        exact h6
      case done =>
        rintro D W2 _ hJ
        unfold FB at hJ
        have hJ := Heap.fr.2 ⟨_, hI, Heap.sort (L1 := [_, _, _]) (L2 := [_, _, _]) hJ [1, 2, 0] rfl rfl (by decide)⟩
        obtain ⟨cv, hcv⟩ : ∃ cv, canF F = cv := ⟨_, rfl⟩
        obtain ⟨F1, hF1⟩ : ∃ F1, failF F cause = F1 := ⟨_, rfl⟩
        have hW := hide (want_f hJ)
        obtain ⟨av, hav⟩ : ∃ av, (bif canF F then atF F else 0) = av := ⟨_, rfl⟩
        rw [hav, hcv] at hW
        have Hav := hide hav
        have Hcv := hide hcv
        clear hJ hJ1 hav
        go_wp2_with fail
        refine (unhide hW).mono ?_
        rintro r w5 ⟨rfl, h1⟩
        have hX := hide (fail_f h1 cause hu)
        rw [hcv, hF1] at hX
        have h11 : canF F1 = false := by rw [← hF1]; exact can_fail cause
        have HF1 := hide hF1
        clear hW h1 hcv hF1
        go_wp2_with fail
        refine (unhide hX).mono ?_
        rintro r w6 ⟨rfl, h1⟩
        have hW := hide (want_f h1)
        rw [h11] at hW
        clear hX h1
        go_wp2_with fail
        refine (unhide hW).mono ?_
        rintro r w7 ⟨rfl, h1⟩
        have H := hide h1
        have H11 := hide h11
        clear hW h1 h11
        go_upto_region 16 with fail
        go_cut [79] from 67 to 79 (fun s wx => s = .bool false ∧ Heap W wx (HP.fr b g F1 :: HP.gg g c :: HP.obj D (.deferred (some [])) :: HP.ah kb F.q :: []))
        case first =>
          have hG := hide (give_f ((unhide HT).at (unhide H)) (Heap.sort (L1 := [_, _, _, _]) (L2 := [_, _, _, _]) (unhide H) [0, 3, 1, 2] rfl rfl (by decide)) 1 (by decide))
          rw [unhide H11, show giveF F1 c 1 = F1 from by unfold giveF; rw [unhide H11]; rfl, show giveC F1 c 1 = c from by unfold giveC; rw [unhide H11]; rfl] at hG
          cases cv with
          | true =>
            go_wp2_with fail
            refine (unhide hG).mono ?_
            rintro r w8 ⟨rfl, h1⟩
            have hX := hide (fail_f h1 cause hu)
            rw [unhide H11, show failF F1 cause = F1 from by unfold failF; rw [unhide H11]; rfl] at hX
            clear hG h1
            go_wp2_with fail
            refine (unhide hX).mono ?_
            rintro r w9 ⟨rfl, h1⟩
            have H := hide h1
            clear hX h1
            go_wp2
            go_meet
            exact ⟨rfl, unhide H⟩
          | false =>
            have H9 := hide (Heap.sort (L1 := [_, _, _, _]) (L2 := [_, _, _, _]) (unhide H) [0, 3, 1, 2] rfl rfl (by decide))
            clear hG
            go_wp2
            go_meet
            exact ⟨rfl, unhide H9⟩
        case rest =>
          obtain ⟨rfl, hR⟩ := hcut
          clear H
          obtain ⟨V, hR⟩ := Heap.ah.1 (hR.nth 3 rfl)
          obtain ⟨A2, cap2, rfl, _⟩ := hR.f2.slw.parts
          obtain ⟨T, hT1, hTc⟩ : ∃ T, F1.q = F.q ++ T ∧ ((cv = true ∧ T = [⟨F.at_, 0, 0, 0, cause, av, 0, Z0⟩]) ∨ (cv = false ∧ T = [])) := by
            rw [← unhide HF1, ← unhide Hav, ← unhide Hcv]
            unfold failF
            cases canF F
            · exact ⟨[], by simp, .inr ⟨rfl, rfl⟩⟩
            · exact ⟨_, rfl, .inl ⟨rfl, rfl⟩⟩
          have HTc := hide hTc
          have HT1 := hide hT1
          have hm8 := hI.len
          have hR := Heap.sort (L1 := [_, _, _, _, _]) (L2 := [_, _, _, _, _]) hR [2, 3, 0, 1, 4] rfl rfl (by decide)
          have H := hide hR
          clear hT1 hR hTc
          go_wp2
          go_loopw [19] (fun s wr => ∃ (k : Nat), s = .int .i64 k ∧ k ≤ F.q.length ∧ Heap W wr (HP.fr b g { F1 with q := F1.q.drop k } :: HP.gg g c :: HP.blk kb ([.slice A2 F.q.length cap2] : List Value).toArray 45 :: HP.slw (.slice A2 F.q.length cap2) 13 F.q.length (itsC F.q) :: HP.obj D (.deferred (some [])) :: [])) (fun s _ => F.q.length - (intOf s).toNat)
          case atStart => exact ⟨0, rfl, Nat.zero_le _, unhide H⟩
          case round =>
            clear H
            obtain ⟨k2, rfl, hk2, hJ⟩ := hrel
            have hb0 : wr.cell? ⟨kb, 0, none⟩ = some (.slice A2 F.q.length cap2) := (cell_blk (Heap.heap hJ.f3) 0).1
            have hkl := lt_of_heap' (Heap.heap hJ.f3)
            by_cases hlt2 : k2 < F.q.length
            · obtain ⟨x, hx⟩ : ∃ x, F.q[k2]? = some x := ⟨_, List.getElem?_eq_getElem hlt2⟩
              obtain ⟨g1, o1, cap3, hv1, _⟩ := hJ.f4.slw.addr (by omega)
              obtain ⟨hA, _⟩ : A2 = some ⟨g1, o1, none⟩ ∧ True := by
                injection hv1 with h1 _ _
                exact ⟨h1, trivial⟩
              subst hA
              clear hv1
              have hd : F1.q.drop k2 = x :: F1.q.drop (k2 + 1) := by
                have hlt1 : k2 < F1.q.length := by rw [unhide HT1, List.length_append]; omega
                rw [List.drop_eq_getElem_cons hlt1]
                congr 1
                have h2 : F1.q[k2]? = some x := by rw [unhide HT1, List.getElem?_append_left hlt2]; exact hx
                rw [List.getElem?_eq_getElem hlt1] at h2
                exact Option.some.inj h2
              have hii : II x := hI.all x (List.mem_of_getElem? hx)
              have hT_ := hide (take_f hJ)
              rw [show headI { F1 with q := F1.q.drop k2 } = x from by unfold headI; show (F1.q.drop k2).headD zeroI = x; rw [hd]; rfl, show (!(F1.q.drop k2).isEmpty) = true from by rw [hd]; rfl, show takeF { F1 with q := F1.q.drop k2 } = { F1 with q := F1.q.drop (k2 + 1) } from by unfold takeF; show { F1 with q := (F1.q.drop k2).drop 1 } = _; rw [hd]; rfl] at hT_
              have Hq := hide hx
              have Hii := hide hii
              clear hJ hd hx hii
              go_wp2_with fail
              refine (unhide hT_).mono ?_
              rintro r wt ⟨rfl, h1⟩
              clear hT_
              have hN := h1.clone #[.int .u64 0, .int .u32 0, .int .u32 0, .int .i64 0, .int .u64 0, .int .u64 0, .int .u64 0, .int .u64 0, .int .u64 0, .int .u64 0, .int .u64 0, .int .i64 0, .int .u64 0] 38 (itl (x)) rfl
              obtain ⟨kx, hkx⟩ : ∃ k, wt.heap.size = k := ⟨_, rfl⟩
              rw [hkx] at hN
              have HN := hide hN
              have Ht := hide (show (wt.alloc (.cells #[.int .u64 0, .int .u32 0, .int .u32 0, .int .i64 0, .int .u64 0, .int .u64 0, .int .u64 0, .int .u64 0, .int .u64 0, .int .u64 0, .int .u64 0, .int .i64 0, .int .u64 0] 38)).there kx 0 (itl (x)).toArray.size from by rw [← hkx]; exact there_new _ _ _ rfl)
              clear hN h1
              go_wp2_with (refine wpList_store_mid rfl 38 (.tmp 20) (.tmp 89) rfl kx 0 (itl (x)).toArray rfl rfl ?_ (by kernel_rfl) (all_oneCell_toArray (itl_cell (x))) ?_
                           rotate_left
                           refine unhide ?_)
              rotate_left
              · exact unhide Ht
              have hN := unhide HN
              change Hid (wpList _ _ _ _ _ ((wt.alloc (.cells #[.int .u64 0, .int .u32 0, .int .u32 0, .int .i64 0, .int .u64 0, .int .u64 0, .int .u64 0, .int .u64 0, .int .u64 0, .int .u64 0, .int .u64 0, .int .i64 0, .int .u64 0] 38)).setCells kx 0 (itl (x))))
              generalize (wt.alloc (.cells #[.int .u64 0, .int .u32 0, .int .u32 0, .int .i64 0, .int .u64 0, .int .u64 0, .int .u64 0, .int .u64 0, .int .u64 0, .int .u64 0, .int .u64 0, .int .i64 0, .int .u64 0] 38)).setCells kx 0 (itl (x)) = wu at hN ⊢
              clear HN Ht hkx
              have H := hide hN.f2
              clear hN
              refine hide ?_
              have Hx := hide (Heap.heap (unhide H).f2)
              have Hb := hide (Heap.heap (unhide H).f4)
              have HS := hide (Heap.slw (unhide H).f5)
              go_upto_region 22 with fail
              refine wp_region_F (fun w_ => GN wu w_) GN (fun k_ v_ w_ => match k_ with
                  | 0 => v_ = .bool true
                  | 1 => v_ = .bool false
                  | 2 => v_ = .bool false
                  | 3 => v_ = .agg (itl x).toArray
                  | 4 => v_ = .slice (some ⟨g1, o1, none⟩) F.q.length cap2
                  | 5 => v_ = .int .i64 (k2 : Nat)
                  | 6 => v_ = .pointer (some ⟨g1, o1 + k2 * 13, none⟩)
                  | 7 => v_ = .agg (itl x).toArray
                  | 8 => v_ = .bool false
                  | _ => v_ = .bool false) fol (by kernel_rfl) ?_ ?_ ?_ ?_
              · exact (GN.refl wu).drew
              · intro k_ v_ w_ w2_ h1 hg
                split at h1 <;> exact h1
              · intro vals
                show wpG _ _ _ _ _ _ 0 (_ :: _) _
                refine wpG_cons (gval (.bool true) GN.refl fun w_ hJ hd => ?_) ?_
                · exact ⟨by kernel_rfl, by kernel_rfl, rfl⟩
                refine wpG_cons (gval (.bool false) GN.refl fun w_ hJ hd => ?_) ?_
                · have e0 : vals 0 = _ := hd 0 (by decide) (by kernel_rfl)
                  rw [e0]
                  exact ⟨by kernel_rfl, by kernel_rfl, rfl⟩
                refine wpG_cons (gval (.bool false) GN.refl fun w_ hJ hd => ?_) ?_
                · have e1 : vals 1 = _ := hd 1 (by decide) (by kernel_rfl)
                  rw [e1]
                  exact ⟨by kernel_rfl, by kernel_rfl, rfl⟩
                refine wpG_cons (gop (Instr.loadAt 38 (.pointer (some ⟨kx, 0, none⟩))) (.agg (itl x).toArray) GN.refl fun w_ hJ hd => ?_) ?_
                · have e2 : vals 2 = _ := hd 2 (by decide) (by kernel_rfl)
                  rw [e2]
                  exact ⟨by kernel_rfl, by kernel_rfl, run_loadAt_mid w_ kx 0 38 (itl x) _ (range_blk (hJ.heap (unhide Hx)) 0 13 _ rfl) Tryd.underlying38 rfl (by kernel_rfl), rfl⟩
                refine wpG_cons (gop (Instr.loadAt 45 (.pointer (some ⟨kb, 0, none⟩))) (.slice (some ⟨g1, o1, none⟩) F.q.length cap2) GN.refl fun w_ hJ hd => ?_) ?_
                · have e2 : vals 2 = _ := hd 2 (by decide) (by kernel_rfl)
                  rw [e2]
                  exact ⟨by kernel_rfl, by kernel_rfl, run_load1 (by kernel_rfl) (cell1 (hJ.heap (unhide Hb))), rfl⟩
                refine wpG_cons (gval (.int .i64 (k2 : Nat)) GN.refl fun w_ hJ hd => ?_) ?_
                · have e2 : vals 2 = _ := hd 2 (by decide) (by kernel_rfl)
                  rw [e2]
                  exact ⟨by kernel_rfl, by kernel_rfl, rfl⟩
                refine wpG_cons (gop (Instr.indexAt 45 (.slice (some ⟨g1, o1, none⟩) F.q.length cap2) (.int .i64 (k2 : Nat))) (.pointer (some ⟨g1, o1 + k2 * 13, none⟩)) GN.refl fun w_ hJ hd => ?_) ?_
                · have e4 : vals 4 = _ := hd 4 (by decide) (by kernel_rfl)
                  have e5 : vals 5 = _ := hd 5 (by decide) (by kernel_rfl)
                  have e2 : vals 2 = _ := hd 2 (by decide) (by kernel_rfl)
                  rw [e4, e5, e2]
                  exact ⟨by kernel_rfl, by kernel_rfl, run_ixat 45 38 13 Tryd.underlying45 (by kernel_rfl) g1 o1 F.q.length cap2 k2 hlt2 w_, rfl⟩
                refine wpG_cons (gop (Instr.loadAt 38 (.pointer (some ⟨g1, o1 + k2 * 13, none⟩))) (.agg (itl x).toArray) GN.refl fun w_ hJ hd => ?_) ?_
                · have e6 : vals 6 = _ := hd 6 (by decide) (by kernel_rfl)
                  have e2 : vals 2 = _ := hd 2 (by decide) (by kernel_rfl)
                  rw [e6, e2]
                  exact ⟨by kernel_rfl, by kernel_rfl, run_loadAt_mid w_ g1 (o1 + k2 * 13) 38 (itl x) _ (item_at ((unhide HS).gn hJ) (unhide Hq)) Tryd.underlying38 rfl (by kernel_rfl), rfl⟩
                refine wpG_cons (gop ((do eqGuard .neq 38 (.tmp 94) (.tmp 98) (.agg (itl x).toArray) (.agg (itl x).toArray); binOp .neq 38 (.agg (itl x).toArray) (.agg (itl x).toArray))) (.bool false) GN.refl fun w_ hJ hd => ?_) ?_
                · have e3 : vals 3 = _ := hd 3 (by decide) (by kernel_rfl)
                  have e7 : vals 7 = _ := hd 7 (by decide) (by kernel_rfl)
                  have e2 : vals 2 = _ := hd 2 (by decide) (by kernel_rfl)
                  rw [e3, e7, e2]
                  exact ⟨by kernel_rfl, by kernel_rfl, eqg38 (neql38 (unhide Hii) w_), rfl⟩
                refine wpG_cons (gval (.bool false) GN.refl fun w_ hJ hd => ?_) wpG_nil
                · have e2 : vals 2 = _ := hd 2 (by decide) (by kernel_rfl)
                  have e8 : vals 8 = _ := hd 8 (by decide) (by kernel_rfl)
                  rw [e2, e8]
                  exact ⟨by kernel_rfl, by kernel_rfl, rfl⟩
              · intro vals w_ hJ hf
                have e0 : vals 0 = _ := hf 0 (by decide)
                have e1 : vals 1 = _ := hf 1 (by decide)
                have e2 : vals 2 = _ := hf 2 (by decide)
                have e3 : vals 3 = _ := hf 3 (by decide)
                have e4 : vals 4 = _ := hf 4 (by decide)
                have e5 : vals 5 = _ := hf 5 (by decide)
                have e6 : vals 6 = _ := hf 6 (by decide)
                have e7 : vals 7 = _ := hf 7 (by decide)
                have e8 : vals 8 = _ := hf 8 (by decide)
                have e9 : vals 9 = _ := hf 9 (by decide)
                simp only [fillG, Nat.zero_add, Nat.reduceAdd, e0, e1, e2, e3, e4, e5, e6, e7, e8, e9, Act.put, List.setIfInBounds_toArray, List.set_cons_succ, List.set_cons_zero]
                clear e0 e1 e2 e3 e4 e5 e6 e7 e8 e9 hf
                have h9 := ((unhide H).grown hJ).f2.tail
                clear hJ
                clear H Hx Hb HS Hq Hii
                have H := hide h9
                clear h9
                go_wp2
                go_roundw
                case rel => exact ⟨k2 + 1, by simp, by omega, unhide H⟩
                case measure => simp [intOf]; omega
            · have hk2e : k2 = F.q.length := by omega
              have e1 : { F1 with q := F1.q.drop k2 } = { F1 with q := T } := by rw [hk2e, unhide HT1, List.drop_left]
              rw [e1] at hJ
              clear e1 hlt2
              subst hk2e
              obtain ⟨y, hy⟩ : ∃ y, T.headD zeroI = y := ⟨_, rfl⟩
              have hT_ := hide (take_f hJ)
              rw [show headI { F1 with q := T } = y from hy, show (!({ F1 with q := T } : Fr).q.isEmpty) = cv from by
                show (!T.isEmpty) = cv
                rcases unhide HTc with ⟨h1, h2⟩ | ⟨h1, h2⟩ <;> rw [h1, h2] <;> rfl] at hT_
              have Hy := hide hy
              clear hJ hy
              go_wp2_with fail
              refine (unhide hT_).mono ?_
              rintro r wt ⟨rfl, h1⟩
              clear hT_
              have hN := h1.clone #[.int .u64 0, .int .u32 0, .int .u32 0, .int .i64 0, .int .u64 0, .int .u64 0, .int .u64 0, .int .u64 0, .int .u64 0, .int .u64 0, .int .u64 0, .int .i64 0, .int .u64 0] 38 (itl (y)) rfl
              obtain ⟨kx, hkx⟩ : ∃ k, wt.heap.size = k := ⟨_, rfl⟩
              rw [hkx] at hN
              have HN := hide hN
              have Ht := hide (show (wt.alloc (.cells #[.int .u64 0, .int .u32 0, .int .u32 0, .int .i64 0, .int .u64 0, .int .u64 0, .int .u64 0, .int .u64 0, .int .u64 0, .int .u64 0, .int .u64 0, .int .i64 0, .int .u64 0] 38)).there kx 0 (itl (y)).toArray.size from by rw [← hkx]; exact there_new _ _ _ rfl)
              clear hN h1
              go_wp2_with (refine wpList_store_mid rfl 38 (.tmp 22) (.tmp 104) rfl kx 0 (itl (y)).toArray rfl rfl ?_ (by kernel_rfl) (all_oneCell_toArray (itl_cell (y))) ?_
                           rotate_left
                           refine unhide ?_)
              rotate_left
              · exact unhide Ht
              have hN := unhide HN
              change Hid (wpList _ _ _ _ _ ((wt.alloc (.cells #[.int .u64 0, .int .u32 0, .int .u32 0, .int .i64 0, .int .u64 0, .int .u64 0, .int .u64 0, .int .u64 0, .int .u64 0, .int .u64 0, .int .u64 0, .int .i64 0, .int .u64 0] 38)).setCells kx 0 (itl (y))))
              generalize (wt.alloc (.cells #[.int .u64 0, .int .u32 0, .int .u32 0, .int .i64 0, .int .u64 0, .int .u64 0, .int .u64 0, .int .u64 0, .int .u64 0, .int .u64 0, .int .u64 0, .int .i64 0, .int .u64 0] 38)).setCells kx 0 (itl (y)) = wu at hN ⊢
              clear HN Ht hkx
              have H := hide hN.f2
              clear hN
              refine hide ?_
              have y3 : wu.cell? ⟨kx, 3, none⟩ = some (.int .i64 y.size) := (cell_blk (Heap.heap (unhide H).f2) 3).1
              have y4 : wu.cell? ⟨kx, 4, none⟩ = some (.int .u64 y.cause) := (cell_blk (Heap.heap (unhide H).f2) 4).1
              have y5 : wu.cell? ⟨kx, 5, none⟩ = some (.int .u64 y.tval) := (cell_blk (Heap.heap (unhide H).f2) 5).1
              have hkxl := lt_of_heap' (Heap.heap (unhide H).f2)
              go_upto_region 25 with fail
              go_cut [128] from 106 to 128 (fun s wx => s = .bool false ∧ wx = wu)
              case first =>
                rcases unhide HTc with ⟨rfl, h2⟩ | ⟨rfl, h2⟩
                · have hy2 := unhide Hy
                  rw [h2] at hy2
                  have e3 : y.size = 0 := by rw [← hy2]; rfl
                  have e4 : y.cause = cause := by rw [← hy2]; rfl
                  have e5 : y.tval = av := by rw [← hy2]; rfl
                  rw [e3] at y3
                  rw [e4] at y4
                  rw [e5] at y5
                  clear hy2 e3 e4 e5 h2
                  go_wp2
                  go_meet
                  exact ⟨rfl, rfl⟩
                · clear h2
                  go_wp2
                  go_meet
                  exact ⟨rfl, rfl⟩
              case rest =>
                obtain ⟨rfl, rfl⟩ := hcut
                clear y3 y4 y5 hkxl
                go_wp2_with fail
                refine (redirect_f (unhide H) tgt ht.1 ht.2).mono ?_
                rintro r wr3 ⟨rfl, h1⟩
                have hW := hide (want_f h1)
                rw [show canF (newF tgt) = true from rfl, show (bif true then atF (newF tgt) else 0) = evn tgt from rfl] at hW
                clear h1 H
                have e1 := u64_not1 tgt ht.1 ht.2
                have e2 : tgt / 2 * 2 = evn tgt := rfl
                rw [e2] at e1
                go_wp2_with fail
                refine (unhide hW).mono ?_
                rintro r wr4 ⟨rfl, h1⟩
                have H := hide h1
                clear hW h1
                go_wp2
                exact leaves_mark ((unhide H).nth 5 rfl) fun w' hJ => ⟨_, results_tmp rfl _ _ _, rfl, hJ.below⟩
end
end Go.Proofs.YtblbgalpkodibaaDoor
