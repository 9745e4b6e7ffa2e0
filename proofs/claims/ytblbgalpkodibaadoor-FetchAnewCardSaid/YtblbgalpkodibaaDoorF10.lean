/- Layer 20: the walk of FetchAnew. -/
import Derived.Test.YtblbgalpkodibaaDoorF8
import Derived.Test.YtblbgalpkodibaaDoorFS
import Derived.Test.YtblbgalpkodibaaDoorRegion2
import Derived.Test.YtblbgalpkodibaaDoorRegionO
import Derived.Deep.CutRange
namespace Go.Proofs.YtblbgalpkodibaaDoor
open Go.RowKit Go.Shelf
attribute [local go_sem] Oper.semAt_some
section
set_option maxRecDepth 100000 in
set_option maxHeartbeats 4000000 in
theorem anew_walk (seed pc tgt : Int) (hs : 0 ≤ seed ∧ seed < 18446744073709551616) (hp : 0 ≤ pc ∧ pc < 18446744073709551616) (ht : 0 ≤ tgt ∧ tgt < 18446744073709551616)
    (A : Option Addr) (n cap : Nat) (A2 : Option Addr) (n2 cap2 : Nat) (W : World) (hT : Tab W) (hS : SlArg [some .u16] W A n) (hn : n ≤ 70368744177664) (hS2 : SlArg [some .u16] W A2 n2) (hn2 : n2 ≤ 70368744177664) :
    Calls Tryd.prog 5 #[.int .u64 seed, .int .u64 pc, .int .u64 tgt, .slice A n cap, .slice A2 n2 cap2] W fun e w' => e = .returned (.bool true) ∧ Below W.heap.size W w' := by
  obtain ⟨X, hX⟩ := half_fun hS
  obtain ⟨Y, hY⟩ := half_fun hS2
  have HX := hide hX
  have HY := hide hY
  have HT := hide hT
  clear hS hS2 hX hY hT
  refine (callsIn_wide (n := 6)).1 ?_
  refine callsIn_of_wp_marks Tryd.func5 rfl trivial ?_ rfl
  simp only [Tryd.ntmps5, List.size_toArray, List.length_cons, List.length_nil, Nat.reduceAdd, Nat.reduceSub, Array.replicate_succ, Array.replicate_zero, List.push_toArray, List.append_toArray, List.nil_append, List.cons_append]
  refine (wpIn_wide (n := 6)).2 ?_
  go_wp2_with fail
  refine (fixed_f (unhide HT) (Heap.nil W)).mono ?_
  rintro r w1 ⟨rfl, h1⟩
  have H := hide h1
  clear h1
  go_wp2_with fail
  refine (new_h (unhide H) seed hs.1 hs.2).mono ?_
  rintro r w2 ⟨g, rfl, h1⟩
  obtain ⟨c, hc⟩ : ∃ c, c0 seed = c := ⟨_, rfl⟩
  have Hd := hide (show Dull c from by rw [← hc]; exact dull_c0 seed)
  rw [hc] at h1
  have Hc := hide hc
  have H := hide h1
  clear h1 hc
  go_wp2_with fail
  refine (new_f (g := g) (unhide H) pc hp.1 hp.2).mono ?_
  rintro r w3 ⟨b, rfl, h1⟩
  generalize newF pc = F at h1
  have H := hide h1
  clear h1
  go_wp2
  go_loopw [12] (fun s wr => ∃ (k : Nat) (F : Fr), s = .int .i64 k ∧ k ≤ n ∧ Heap W wr [HP.fr b g F, HP.gg g c]) (fun s _ => n - (intOf s).toNat)
  case atStart => exact ⟨0, F, rfl, Nat.zero_le _, unhide H⟩
  case round =>
    clear H
    obtain ⟨k, F, rfl, hk, hJ⟩ := hrel
    by_cases hlt : k < n
    · obtain ⟨hx, hat⟩ := unhide HX k hlt
      obtain ⟨ab, ao, rfl, c0, hab⟩ := hat wr hJ.below
      generalize X k = h at hx c0
      have HJ := hide hJ
      clear hJ hat
      go_wp2_with fail
      refine (give_f ((unhide HT).at (unhide HJ)) (unhide HJ) h hx).mono ?_
      rintro r w4 ⟨rfl, h4⟩
      rw [giveC_dull (unhide Hd)] at h4
      clear HJ c0 hab
      go_wp2
      go_roundw
      case rel => exact ⟨k + 1, _, by simp, by omega, h4⟩
      case measure => simp [intOf]; omega
    · obtain rfl : k = n := by omega
      have HJ := hide hJ
      clear hJ
      go_wp2_with fail
      refine (redirect_f (unhide HJ) tgt ht.1 ht.2).mono ?_
      rintro r w5 ⟨rfl, h1⟩
      have H := hide h1
      clear HJ h1
      go_wp2_with fail
      refine (new_h (unhide H) seed hs.1 hs.2).mono ?_
      rintro r w6 ⟨g2, rfl, h1⟩
      rw [unhide Hc] at h1
      have H := hide h1
      clear h1
      go_wp2_with fail
      refine (new_f (g := g2) (unhide H) tgt ht.1 ht.2).mono ?_
      rintro r w7 ⟨b2, rfl, h1⟩
      have h1 := Heap.sort (L1 := [_, _, _, _]) (L2 := [_, _, _, _]) (M := []) h1 [2, 3, 0, 1] rfl rfl (by decide)
      generalize newF tgt = F at h1
      have H := hide h1
      clear h1
      go_wp2
      go_loopw [14] (fun s wr => ∃ (k : Nat) (F : Fr), s = .int .i64 k ∧ k ≤ n2 ∧ Heap W wr [HP.fr b g F, HP.gg g c, HP.fr b2 g2 F, HP.gg g2 c]) (fun s _ => n2 - (intOf s).toNat)
      case atStart => exact ⟨0, F, rfl, Nat.zero_le _, unhide H⟩
      case round =>
        clear H
        obtain ⟨k, F, rfl, hk, hJ⟩ := hrel
        by_cases hlt : k < n2
        · obtain ⟨hx, hat⟩ := unhide HY k hlt
          obtain ⟨ab, ao, rfl, c0, hab⟩ := hat W (Below.refl _ _)
          generalize Y k = h at hx c0
          obtain ⟨cv, hcv⟩ : ∃ cv, canF F = cv := ⟨_, rfl⟩
          obtain ⟨F2, hF2⟩ : ∃ F2, giveF F c h = F2 := ⟨_, rfl⟩
          have PG : Hid (∀ w_ b g L, Heap W w_ (HP.fr b g F :: HP.gg g c :: L) → Calls Tryd.prog 12 #[.pointer (some ⟨b, 0, none⟩), .int .u16 (h : Nat)] w_ fun r w' => r = .returned (.bool cv) ∧ Heap W w' (HP.fr b g F2 :: HP.gg g c :: L)) := hide fun w_ b g L hh => by
            have := give_f ((unhide HT).at hh) hh h hx
            rw [giveC_dull (unhide Hd), hF2, hcv] at this
            exact this
          have H := hide hJ
          clear hJ hat hF2 hcv
          go_upto_region 13 with fail
          obtain ⟨vals, e0, e1, e2, e3, e4, e5, e6, e7, e8, e9, e10, e11, e12⟩ : ∃ vals : Nat → Value, vals 0 = .pointer (some ⟨b, 0, none⟩) ∧ vals 1 = .slice (some ⟨ab, ao, none⟩) n2 cap2 ∧ vals 2 = .int .i64 (k : Nat) ∧ vals 3 = .pointer (some ⟨ab, ao + k * 1, none⟩) ∧ vals 4 = .int .u16 (h : Nat) ∧ vals 5 = .bool cv ∧ vals 6 = .pointer (some ⟨b2, 0, none⟩) ∧ vals 7 = .slice (some ⟨ab, ao, none⟩) n2 cap2 ∧ vals 8 = .int .i64 (k : Nat) ∧ vals 9 = .pointer (some ⟨ab, ao + k * 1, none⟩) ∧ vals 10 = .int .u16 (h : Nat) ∧ vals 11 = .bool cv ∧ vals 12 = .bool false :=
            ⟨fun k_ => match k_ with
              | 0 => .pointer (some ⟨b, 0, none⟩)
              | 1 => .slice (some ⟨ab, ao, none⟩) n2 cap2
              | 2 => .int .i64 (k : Nat)
              | 3 => .pointer (some ⟨ab, ao + k * 1, none⟩)
              | 4 => .int .u16 (h : Nat)
              | 5 => .bool cv
              | 6 => .pointer (some ⟨b2, 0, none⟩)
              | 7 => .slice (some ⟨ab, ao, none⟩) n2 cap2
              | 8 => .int .i64 (k : Nat)
              | 9 => .pointer (some ⟨ab, ao + k * 1, none⟩)
              | 10 => .int .u16 (h : Nat)
              | 11 => .bool cv
              | _ => .bool false
              , rfl, rfl, rfl, rfl, rfl, rfl, rfl, rfl, rfl, rfl, rfl, rfl, rfl⟩
          refine wp_region_V (J2 5 11 (fun a1 a2 w_ => Heap W w_ [HP.fr b g (bif a1 then F2 else F), HP.gg g c, HP.fr b2 g2 (bif a2 then F2 else F), HP.gg g2 c])) vals fol (by kernel_rfl) (J2.start ?_) ?_ ?_
          · exact (unhide H).drew
          · show wpV _ _ _ _ 0 (_ :: _) _
            refine wpV_cons e0 (j2val (by decide) (by decide) (.pointer (some ⟨b, 0, none⟩)) fun a1 a2 w_ hK => ?_) ?_
            · exact ⟨by kernel_rfl, by kernel_rfl⟩
            refine wpV_cons e1 (j2val (by decide) (by decide) (.slice (some ⟨ab, ao, none⟩) n2 cap2) fun a1 a2 w_ hK => ?_) ?_
            · exact ⟨by kernel_rfl, by kernel_rfl⟩
            refine wpV_cons e2 (j2val (by decide) (by decide) (.int .i64 (k : Nat)) fun a1 a2 w_ hK => ?_) ?_
            · exact ⟨by kernel_rfl, by kernel_rfl⟩
            refine wpV_cons e3 (j2val (by decide) (by decide) (.pointer (some ⟨ab, ao + k * 1, none⟩)) fun a1 a2 w_ hK => ?_) ?_
            · exact ⟨by kernel_rfl, Eq.trans (b := Sem.run Tryd.prog (do let r ← Instr.indexAt 23 (.slice (some ⟨ab, ao, none⟩) n2 cap2) (.int .i64 (k : Nat)); pure (Next.value r)) w_) (by kernel_rfl) (run_val (run_ixat 23 32 1 Tryd.underlying23 (by kernel_rfl) ab ao n2 cap2 k hlt w_))⟩
            refine wpV_cons e4 (j2val (by decide) (by decide) (.int .u16 (h : Nat)) fun a1 a2 w_ hK => ?_) ?_
            · exact ⟨by kernel_rfl, Eq.trans (b := Sem.run Tryd.prog (do let r ← Instr.loadAt 32 (.pointer (some ⟨ab, ao + k * 1, none⟩)); pure (Next.value r)) w_) (by kernel_rfl) (run_val (run_load1 (by kernel_rfl) (by rw [Nat.mul_one]; exact (hK.below.cell (p := ⟨ab, ao + k, none⟩) hab).trans c0)))⟩
            refine wpV_cons e5 (j2one (by decide) 12 #[.pointer (some ⟨b, 0, none⟩), .int .u16 (h : Nat)] (.bool cv) fun a2 w_ hK => ?_) ?_
            · exact ⟨by kernel_rfl, by kernel_rfl, ((unhide PG) w_ _ _ _ hK).mono fun e w2 ⟨he, hh⟩ => ⟨he, hh⟩⟩
            refine wpV_cons e6 (j2val (by decide) (by decide) (.pointer (some ⟨b2, 0, none⟩)) fun a1 a2 w_ hK => ?_) ?_
            · exact ⟨by kernel_rfl, by kernel_rfl⟩
            refine wpV_cons e7 (j2val (by decide) (by decide) (.slice (some ⟨ab, ao, none⟩) n2 cap2) fun a1 a2 w_ hK => ?_) ?_
            · exact ⟨by kernel_rfl, by kernel_rfl⟩
            refine wpV_cons e8 (j2val (by decide) (by decide) (.int .i64 (k : Nat)) fun a1 a2 w_ hK => ?_) ?_
            · exact ⟨by kernel_rfl, by kernel_rfl⟩
            refine wpV_cons e9 (j2val (by decide) (by decide) (.pointer (some ⟨ab, ao + k * 1, none⟩)) fun a1 a2 w_ hK => ?_) ?_
            · exact ⟨by kernel_rfl, Eq.trans (b := Sem.run Tryd.prog (do let r ← Instr.indexAt 23 (.slice (some ⟨ab, ao, none⟩) n2 cap2) (.int .i64 (k : Nat)); pure (Next.value r)) w_) (by kernel_rfl) (run_val (run_ixat 23 32 1 Tryd.underlying23 (by kernel_rfl) ab ao n2 cap2 k hlt w_))⟩
            refine wpV_cons e10 (j2val (by decide) (by decide) (.int .u16 (h : Nat)) fun a1 a2 w_ hK => ?_) ?_
            · exact ⟨by kernel_rfl, Eq.trans (b := Sem.run Tryd.prog (do let r ← Instr.loadAt 32 (.pointer (some ⟨ab, ao + k * 1, none⟩)); pure (Next.value r)) w_) (by kernel_rfl) (run_val (run_load1 (by kernel_rfl) (by rw [Nat.mul_one]; exact (hK.below.cell (p := ⟨ab, ao + k, none⟩) hab).trans c0)))⟩
            refine wpV_cons e11 (j2two (by decide) 12 #[.pointer (some ⟨b2, 0, none⟩), .int .u16 (h : Nat)] (.bool cv) fun a1 w_ hK => ?_) ?_
            · exact ⟨by kernel_rfl, by kernel_rfl, ((unhide PG) w_ _ _ _ (Heap.sort (L1 := [_, _, _, _]) (L2 := [_, _, _, _]) hK [2, 3, 0, 1] rfl rfl (by decide))).mono fun e w2 ⟨he, hh⟩ => ⟨he, Heap.sort (L1 := [_, _, _, _]) (L2 := [_, _, _, _]) hh [2, 3, 0, 1] rfl rfl (by decide)⟩⟩
            refine wpV_cons e12 (j2val (by decide) (by decide) (.bool false) fun a1 a2 w_ hK => ?_) wpV_nil
            · cases cv <;> exact ⟨by kernel_rfl, by kernel_rfl⟩
          · intro w_ hJ2
            have h5 := hJ2.done (by decide) (by decide)
            simp only [cond_true] at h5
            clear hJ2
            simp only [fillG, Nat.zero_add, Nat.reduceAdd, e0, e1, e2, e3, e4, e5, e6, e7, e8, e9, e10, e11, e12, Act.put, List.setIfInBounds_toArray, List.set_cons_succ, List.set_cons_zero]
            clear e0 e1 e2 e3 e4 e5 e6 e7 e8 e9 e10 e11 e12
            obtain ⟨av, hav⟩ : ∃ av, (bif canF F2 then atF F2 else 0) = av := ⟨_, rfl⟩
            obtain ⟨cv2, hcv2⟩ : ∃ cv, canF F2 = cv := ⟨_, rfl⟩
            have hW := hide (want_f h5)
            rw [hav, hcv2] at hW
            clear H h5 c0
            go_wp2_with fail
            refine (unhide hW).mono ?_
            rintro r w8 ⟨rfl, h1⟩
            have hW2 := hide (want_f (Heap.sort (L1 := [_, _, _, _]) (L2 := [_, _, _, _]) (M := []) h1 [2, 3, 0, 1] rfl rfl (by decide)))
            rw [hav, hcv2] at hW2
            clear hW h1 hav hcv2
            go_wp2_with fail
            refine (unhide hW2).mono ?_
            rintro r w9 ⟨rfl, h1⟩
            have H := hide (Heap.sort (L1 := [_, _, _, _]) (L2 := [_, _, _, _]) (M := []) h1 [2, 3, 0, 1] rfl rfl (by decide))
            clear hW2 h1
            go_upto_if 88 with fail
            go_wp2_with fail
            rotate_left
            · exact ⟨⟨k + 1, F2, by simp, by omega, unhide H⟩, by simp [intOf]; omega⟩
            obtain ⟨y, hy⟩ : ∃ y, headI F2 = y := ⟨_, rfl⟩
            obtain ⟨ev, hev⟩ : ∃ e, (!F2.q.isEmpty) = e := ⟨_, rfl⟩
            have hT_ := hide (take_f (unhide H))
            have hii := II.head (unhide H).frI
            rw [hy] at hii
            have Hii := hide hii
            rw [hy, hev] at hT_
            clear hii
            go_wp2_with fail
            refine (unhide hT_).mono ?_
            rintro r wt ⟨rfl, h1⟩
            clear hT_
            have hN := h1.clone #[.int .u64 0, .int .u32 0, .int .u32 0, .int .i64 0, .int .u64 0, .int .u64 0, .int .u64 0, .int .u64 0, .int .u64 0, .int .u64 0, .int .u64 0, .int .i64 0, .int .u64 0] 38 (itl (y)) rfl
            obtain ⟨k1, hk1⟩ : ∃ k, wt.heap.size = k := ⟨_, rfl⟩
            rw [hk1] at hN
            have HN := hide hN
            have Ht := hide (show (wt.alloc (.cells #[.int .u64 0, .int .u32 0, .int .u32 0, .int .i64 0, .int .u64 0, .int .u64 0, .int .u64 0, .int .u64 0, .int .u64 0, .int .u64 0, .int .u64 0, .int .i64 0, .int .u64 0] 38)).there k1 0 (itl (y)).toArray.size from by rw [← hk1]; exact there_new _ _ _ rfl)
            clear hN h1
            go_wp2_with (refine wpList_store_mid rfl 38 (.tmp 19) (.tmp 92) rfl k1 0 (itl (y)).toArray rfl rfl ?_ (by kernel_rfl) (all_oneCell_toArray (itl_cell (y))) ?_
                         rotate_left
                         refine unhide ?_)
            rotate_left
            · exact unhide Ht
            have hN := unhide HN
            change Hid (wpList _ _ _ _ _ ((wt.alloc (.cells #[.int .u64 0, .int .u32 0, .int .u32 0, .int .i64 0, .int .u64 0, .int .u64 0, .int .u64 0, .int .u64 0, .int .u64 0, .int .u64 0, .int .u64 0, .int .i64 0, .int .u64 0] 38)).setCells k1 0 (itl (y))))
            generalize (wt.alloc (.cells #[.int .u64 0, .int .u32 0, .int .u32 0, .int .i64 0, .int .u64 0, .int .u64 0, .int .u64 0, .int .u64 0, .int .u64 0, .int .u64 0, .int .u64 0, .int .i64 0, .int .u64 0] 38)).setCells k1 0 (itl (y)) = wu at hN ⊢
            clear HN Ht hk1
            have H := hide hN.f2
            clear hN
            refine hide ?_
            have hT_ := hide (take_f (Heap.sort (L1 := [_, _, _, _, _]) (L2 := [_, _, _, _, _]) (M := []) (unhide H) [3, 0, 1, 2, 4] rfl rfl (by decide)))
            rw [hy, hev] at hT_
            clear hy hev
            go_wp2_with fail
            refine (unhide hT_).mono ?_
            rintro r wt ⟨rfl, h1⟩
            clear hT_
            have hN := h1.clone #[.int .u64 0, .int .u32 0, .int .u32 0, .int .i64 0, .int .u64 0, .int .u64 0, .int .u64 0, .int .u64 0, .int .u64 0, .int .u64 0, .int .u64 0, .int .i64 0, .int .u64 0] 38 (itl (y)) rfl
            obtain ⟨k2, hk2⟩ : ∃ k, wt.heap.size = k := ⟨_, rfl⟩
            rw [hk2] at hN
            have HN := hide hN
            have Ht := hide (show (wt.alloc (.cells #[.int .u64 0, .int .u32 0, .int .u32 0, .int .i64 0, .int .u64 0, .int .u64 0, .int .u64 0, .int .u64 0, .int .u64 0, .int .u64 0, .int .u64 0, .int .i64 0, .int .u64 0] 38)).there k2 0 (itl (y)).toArray.size from by rw [← hk2]; exact there_new _ _ _ rfl)
            clear hN h1
            go_wp2_with (refine wpList_store_mid rfl 38 (.tmp 21) (.tmp 97) rfl k2 0 (itl (y)).toArray rfl rfl ?_ (by kernel_rfl) (all_oneCell_toArray (itl_cell (y))) ?_
                         rotate_left
                         refine unhide ?_)
            rotate_left
            · exact unhide Ht
            have hN := unhide HN
            change Hid (wpList _ _ _ _ _ ((wt.alloc (.cells #[.int .u64 0, .int .u32 0, .int .u32 0, .int .i64 0, .int .u64 0, .int .u64 0, .int .u64 0, .int .u64 0, .int .u64 0, .int .u64 0, .int .u64 0, .int .i64 0, .int .u64 0] 38)).setCells k2 0 (itl (y))))
            generalize (wt.alloc (.cells #[.int .u64 0, .int .u32 0, .int .u32 0, .int .i64 0, .int .u64 0, .int .u64 0, .int .u64 0, .int .u64 0, .int .u64 0, .int .u64 0, .int .u64 0, .int .i64 0, .int .u64 0] 38)).setCells k2 0 (itl (y)) = wu at hN ⊢
            clear HN Ht hk2
            have H := hide hN.f2
            clear hN
            refine hide ?_
            have Hk2 := hide (Heap.heap (unhide H).f2)
            have Hk1 := hide (Heap.heap (unhide H).f4)
            go_upto_region 22 with fail
            refine wp_list_O (fun w_ => GN wu w_) GN (fun k_ v_ w_ => match k_ with
                | 0 => v_ = .bool ev
                | 1 => v_ = .bool ev
                | 2 => v_ = .bool false
                | 3 => v_ = .bool false
                | 4 => v_ = .agg (itl y).toArray
                | 5 => v_ = .agg (itl y).toArray
                | 6 => v_ = .bool false
                | _ => v_ = .bool false) ?_ ?_ GN.refl ?_ ?_
            · exact GN.refl wu
            · intro k_ v_ w_ w2_ h1 hg
              split at h1 <;> exact h1
            · intro vals
              show wpO _ _ _ _ _ _ 0 (_ :: _) _
              refine wpO_cons (oval (.bool ev) GN.refl fun w_ hJ hd => ?_) ?_
              · exact ⟨by kernel_rfl, by kernel_rfl, rfl⟩
              refine wpO_cons (oval (.bool ev) GN.refl fun w_ hJ hd => ?_) ?_
              · exact ⟨by kernel_rfl, by kernel_rfl, rfl⟩
              refine wpO_cons (oval (.bool false) GN.refl fun w_ hJ hd => ?_) ?_
              · have e0 : vals 0 = _ := hd 0 (by decide)
                have e1 : vals 1 = _ := hd 1 (by decide)
                rw [e0, e1]
                cases ev <;> exact ⟨by kernel_rfl, by kernel_rfl, rfl⟩
              refine wpO_cons (oval (.bool false) GN.refl fun w_ hJ hd => ?_) ?_
              · have e2 : vals 2 = _ := hd 2 (by decide)
                rw [e2]
                exact ⟨by kernel_rfl, by kernel_rfl, rfl⟩
              refine wpO_cons (oop (Instr.loadAt 38 (.pointer (some ⟨k1, 0, none⟩))) (.agg (itl y).toArray) GN.refl fun w_ hJ hd => ?_) ?_
              · have e3 : vals 3 = _ := hd 3 (by decide)
                rw [e3]
                exact ⟨by kernel_rfl, by kernel_rfl, run_loadAt_mid w_ k1 0 38 (itl y) _ (range_blk (hJ.heap (unhide Hk1)) 0 13 _ rfl) Tryd.underlying38 rfl (by kernel_rfl), rfl⟩
              refine wpO_cons (oop (Instr.loadAt 38 (.pointer (some ⟨k2, 0, none⟩))) (.agg (itl y).toArray) GN.refl fun w_ hJ hd => ?_) ?_
              · have e3 : vals 3 = _ := hd 3 (by decide)
                rw [e3]
                exact ⟨by kernel_rfl, by kernel_rfl, run_loadAt_mid w_ k2 0 38 (itl y) _ (range_blk (hJ.heap (unhide Hk2)) 0 13 _ rfl) Tryd.underlying38 rfl (by kernel_rfl), rfl⟩
              refine wpO_cons (oop ((do eqGuard .neq 38 (.tmp 103) (.tmp 104) (.agg (itl y).toArray) (.agg (itl y).toArray); binOp .neq 38 (.agg (itl y).toArray) (.agg (itl y).toArray))) (.bool false) GN.refl fun w_ hJ hd => ?_) ?_
              · have e4 : vals 4 = _ := hd 4 (by decide)
                have e5 : vals 5 = _ := hd 5 (by decide)
                have e3 : vals 3 = _ := hd 3 (by decide)
                rw [e4, e5, e3]
                exact ⟨by kernel_rfl, by kernel_rfl, eqg38 (neql38 (unhide Hii) w_), rfl⟩
              refine wpO_cons (oval (.bool false) GN.refl fun w_ hJ hd => ?_) wpO_nil
              · have e3 : vals 3 = _ := hd 3 (by decide)
                have e6 : vals 6 = _ := hd 6 (by decide)
                rw [e3, e6]
                exact ⟨by kernel_rfl, by kernel_rfl, rfl⟩
            · intro vals w_ hJ hf
              have e0 : vals 0 = _ := hf 0 (by decide)
              have e1 : vals 1 = _ := hf 1 (by decide)
              have e2 : vals 2 = _ := hf 2 (by decide)
              have e3 : vals 3 = _ := hf 3 (by decide)
              have e4 : vals 4 = _ := hf 4 (by decide)
              have e5 : vals 5 = _ := hf 5 (by decide)
              have e6 : vals 6 = _ := hf 6 (by decide)
              have e7 : vals 7 = _ := hf 7 (by decide)
              simp only [fillG, Nat.zero_add, Nat.reduceAdd, e0, e1, e2, e3, e4, e5, e6, e7, Act.put, List.setIfInBounds_toArray, List.set_cons_succ, List.set_cons_zero]
              clear e0 e1 e2 e3 e4 e5 e6 e7 hf
              have h9 := (Heap.sort (L1 := [_, _, _, _, _, _]) (L2 := [_, _, _, _, _, _]) (M := []) ((unhide H).grown hJ) [1, 3, 2, 4, 0, 5] rfl rfl (by decide)).tail.tail
              clear hJ H Hk1 Hk2 Hii
              have H := hide h9
              clear h9
              go_wp2
              exact ⟨⟨k + 1, takeF F2, by simp, by omega, unhide H⟩, by simp [intOf]; omega⟩
        · obtain rfl : k = n2 := by omega
          obtain ⟨A1, cap1, hC, hh⟩ := hJ.fc
          have hI := hC.I
          have hlen := hI.len
          have hJ0 := (hh.new ([.int .i64 0] : List Value).toArray 3).new #[.pointer (some ⟨b, 0, none⟩)] 25
          obtain ⟨km, hkm⟩ : ∃ k, wr.heap.size = k := ⟨_, rfl⟩
          clear hJ hC hh
          go_wp2_with fail
          refine (items_f _ b).mono ?_
          rintro r w9 ⟨rfl, rfl⟩
          simp only [World.size_alloc, hkm] at hJ0
          go_wp2_with fail
          obtain ⟨box, hbox⟩ : ∃ k, km + 1 = k := ⟨_, rfl⟩
          rw [hbox] at hJ0 ⊢
          generalize ((wr.alloc (.cells ([.int .i64 0] : List Value).toArray 3)).alloc (.cells #[.pointer (some ⟨b, 0, none⟩)] 25)) = W1 at hJ0 ⊢
          unfold FB at hJ0
          have hJ1 : Heap W W1 (HP.blk box #[.pointer (some ⟨b, 0, none⟩)] 25 :: FB b g F (.slice A1 F.q.length cap1) [HP.blk km ([.int .i64 (([] : List It).length : Int)] : List Value).toArray 3, HP.gg g c, HP.fr b2 g2 F, HP.gg g2 c]) := Heap.sort (L1 := [_, _, _, _]) (L2 := [_, _, _, _]) hJ0 [0, 2, 3, 1] rfl rfl (by decide)
          clear hJ0 hkm hbox
          refine range_skip (γ := Unit) (fun pre => [HP.blk km ([.int .i64 (pre.length : Int)] : List Value).toArray 3, HP.gg g c, HP.fr b2 g2 F, HP.gg g2 c]) (fun _ => True) (fun _ _ _ => False) (fun _ => []) rfl hI
            (fun _ => .blk (.gg (.fr (.gg .nil)))) (fun _ => .nil) trivial hJ1 ?body ?done (fun _ _ _ _ _ h _ _ => h.elim)
          case body =>
            rintro l pre x W2 _ hlt hB
            simp only [List.setIfInBounds_toArray, List.set_cons_succ, List.set_cons_zero]
            unfold FB at hB
            have n0 : W2.cell? ⟨km, 0, none⟩ = some (.int .i64 (pre.length : Int)) := (cell_blk (Heap.heap hB.f4) 0).1
            have n0f := (cell_blk (Heap.heap hB.f4) 0).2
            have hkml := lt_of_heap' (Heap.heap hB.f4)
            have HB := hide hB
            clear hB
            gi_wp2
            refine ⟨by rw [size_setCell]; exact Nat.le_refl _, trivial, ?_⟩
            have h5 := (unhide HB).f4.setl 0 (.int .i64 ((pre.length : Int) + 1))
            have h6 := Heap.sort (L1 := [_, _, _, _]) (L2 := [_, _, _, _]) h5 [1, 2, 3, 0] rfl rfl (by decide)
            unfold FB
            show Heap W _ (_ :: _ :: _ :: HP.blk km ([.int .i64 ((pre ++ [x]).length : Int)] : List Value).toArray 3 :: _)
            rw [show (((pre ++ [x]).length : Nat) : Int) = (pre.length : Int) + 1 by simp]
            exact h6
          case done =>
            rintro D W2 _ hJ
            unfold FB at hJ
            have hJ := Heap.fr.2 ⟨_, hI, Heap.sort (L1 := [_, _, _]) (L2 := [_, _, _]) hJ [1, 2, 0] rfl rfl (by decide)⟩
            have hJ := Heap.sort (L1 := [_, _, _, _, _, _]) (L2 := [_, _, _, _, _, _]) (M := []) hJ [4, 2, 0, 1, 3, 5] rfl rfl (by decide)
            obtain ⟨A3, cap3, hC, hh⟩ := Heap.fc hJ
            have hJ0 := hh.new #[.pointer (some ⟨b2, 0, none⟩)] 25
            obtain ⟨kx, hkx⟩ : ∃ k, W2.heap.size = k := ⟨_, rfl⟩
            have hkml := lt_of_heap' (Heap.heap hJ.f2)
            clear hJ hJ1 hC hh
            go_wp2_with fail
            refine (items_f _ b2).mono ?_
            rintro r w9 ⟨rfl, rfl⟩
            rw [hkx] at hJ0
            go_wp2_with fail
            generalize W2.alloc (.cells #[.pointer (some ⟨b2, 0, none⟩)] 25) = W3 at hJ0 ⊢
            unfold FB at hJ0
            have hJ0 := Heap.sort (L1 := [_, _, _, _]) (L2 := [_, _, _, _]) hJ0 [0, 1, 2, 3] rfl rfl (by decide)
            obtain ⟨P, hP, hJ1, back⟩ := Heap.pinL (Y := [_, _, _, _]) hJ0
            have hJ1 : Heap W W3 (HP.blk kx #[.pointer (some ⟨b2, 0, none⟩)] 25 :: FB b2 g2 F (.slice A3 F.q.length cap3) [HP.blk km ([.int .i64 ((F.q.length : Int) - (([] : List It).length : Int))] : List Value).toArray 3, P]) := by
              rw [show (F.q.length : Int) - (([] : List It).length : Int) = (F.q.length : Int) by simp]
              exact hJ1
            clear hJ0 hkx
            refine range_skip (γ := Unit) (fun pre => [HP.blk km ([.int .i64 ((F.q.length : Int) - (pre.length : Int))] : List Value).toArray 3, P]) (fun _ => True) (fun _ _ _ => False) (fun _ => []) rfl hI
              (fun _ => .blk (.cons hP .nil)) (fun _ => .nil) trivial hJ1 ?body2 ?done2 (fun _ _ _ _ _ h _ _ => h.elim)
            case body2 =>
              rintro l pre x W2 _ hlt hB
              simp only [List.setIfInBounds_toArray, List.set_cons_succ, List.set_cons_zero]
              unfold FB at hB
              have n0 : W2.cell? ⟨km, 0, none⟩ = some (.int .i64 ((F.q.length : Int) - (pre.length : Int))) := (cell_blk (Heap.heap hB.f4) 0).1
              have n0f := (cell_blk (Heap.heap hB.f4) 0).2
              have hkml := lt_of_heap' (Heap.heap hB.f4)
              have HB := hide hB
              clear hB
              gi_wp2
              refine ⟨by rw [size_setCell]; exact Nat.le_refl _, trivial, ?_⟩
              have h5 := (unhide HB).f4.setl 0 (.int .i64 ((F.q.length : Int) - (pre.length : Int) - 1))
              have h6 := Heap.sort (L1 := [_, _, _, _]) (L2 := [_, _, _, _]) h5 [1, 2, 3, 0] rfl rfl (by decide)
              unfold FB
              show Heap W _ (_ :: _ :: _ :: HP.blk km ([.int .i64 ((F.q.length : Int) - ((pre ++ [x]).length : Int))] : List Value).toArray 3 :: _)
              rw [show (F.q.length : Int) - (((pre ++ [x]).length : Nat) : Int) = (F.q.length : Int) - (pre.length : Int) - 1 by simp; omega]
              exact h6
            case done2 =>
              rintro D2 W4 _ hJ
              rw [show (F.q.length : Int) - (F.q.length : Int) = 0 by omega] at hJ
              unfold FB at hJ
              have n0 : W4.cell? ⟨km, 0, none⟩ = some (.int .i64 0) := (cell_blk (Heap.heap hJ.f4) 0).1
              have hkml := lt_of_heap' (Heap.heap hJ.f4)
              have hJ := back (Z := [_, _, _, _]) hJ
              have H := hide hJ
              clear hJ back hJ1
              go_wp2
              exact leaves_marks (fun w' hJ => ⟨_, results_tmp rfl _ _ _, rfl, hJ.below⟩) [D2, D] (Heap.sort (L1 := [_, _, _, _, _, _, _, _]) (L2 := [_, _, _, _, _, _, _, _]) (M := []) (unhide H) [0, 5, 1, 2, 3, 4, 6, 7] rfl rfl (by decide))
end
end Go.Proofs.YtblbgalpkodibaaDoor
