/- Layer 20: the walk of FetchDoes. -/
import Derived.Test.YtblbgalpkodibaaDoorH4
import Derived.Test.YtblbgalpkodibaaDoorH7
namespace Go.Proofs.YtblbgalpkodibaaDoor
open Go.RowKit Go.Shelf
theorem stepD_at {w wr : World} {A : Option Addr} {n k : Nat} (hS : SlArg [some .i64, some .i64, some .u64, some .u64] w A n) (hb : Below w.heap.size w wr) (hk : k < n) : ∃ ab ao, A = some ⟨ab, ao, none⟩ ∧ ∃ (kd nn pc' to' : Int),
    (wr.cell? ⟨ab, ao + k * 4, none⟩ = some (.int .i64 kd) ∧ wr.cell? ⟨ab, ao + k * 4 + 1, none⟩ = some (.int .i64 nn) ∧ wr.cell? ⟨ab, ao + k * 4 + 2, none⟩ = some (.int .u64 pc') ∧ wr.cell? ⟨ab, ao + k * 4 + 3, none⟩ = some (.int .u64 to')) ∧
    (-9223372036854775808 ≤ nn ∧ nn < 9223372036854775808) ∧ (0 ≤ pc' ∧ pc' < 18446744073709551616) ∧ (0 ≤ to' ∧ to' < 18446744073709551616) ∧ ab < wr.heap.size := by
  obtain ⟨ab, ao, hA, hab, hX⟩ := hS (by omega)
  obtain ⟨cs, hf, hc⟩ := hX k hk
  have c0 := cell_int hf hc (j := 0) rfl
  have c1 := cell_int hf hc (j := 1) rfl
  have c2 := cell_int hf hc (j := 2) rfl
  have c3 := cell_int hf hc (j := 3) rfl
  simp only [List.length_cons, List.length_nil, Nat.zero_add, Nat.reduceAdd, Nat.add_zero] at c0 c1 c2 c3
  have up : ∀ {o : Nat} {v : Value}, w.cell? ⟨ab, o, none⟩ = some v → wr.cell? ⟨ab, o, none⟩ = some v := fun h => (hb.cell (p := ⟨ab, _, none⟩) hab).trans h
  exact ⟨ab, ao, hA, _, _, _, _, ⟨up c0.1, up c1.1, up c2.1, up c3.1⟩, i64' c1.2, b64' c2.2, b64' c3.2, Nat.lt_of_lt_of_le hab hb.size⟩
/-- A load of several cells, guarded, where the guard lets it go. -/
theorem wpList_load_mid_g {ops : Array Oper} {rest : List Oper} {op : Oper} {a : Act} {w : World} {Q : Exit → Act → World → Prop} (hw : Region.wanted op (yielded ops a.tmps) = true) (ty : TypeId) (x : Operand) (ho : op.op = .load ty x)
    (b o : Nat) (hx : a.eval x = .pointer (some ⟨b, o, none⟩)) (cs : List Value) (d : TypeDesc) (hc : w.rangeAt b o cs)
    (hu : Tryd.prog.underlying ty = some d) (hd : d.isRow = true) (hi : (Tryd.prog.info? ty).map (·.size) = some cs.length)
    (h : wpList Tryd.prog ops Q rest (a.put op.dst (.agg cs.toArray)) w) : wpList Tryd.prog ops Q (op :: rest) a w :=
  wpList_step fun _ hK => by rw [if_pos hw]; exact wp_load_mid ty x ho b o hx cs d hc hu hd hi (hK _ _ h)
theorem II_zero : II zeroI where
  pc := z64
  bits := z32
  inst := z32
  size := z4
  cause := z64
  tval := z64
  nxt := z64
  evn := ⟨rfl, rfl⟩
  mrk := mb_zero
theorem same_self {x : It} (hx : II x) (w : World) : Calls Tryd.prog 24 #[.agg (itl x).toArray, .agg (itl x).toArray] w fun r w' => r = .returned (.bool true) ∧ GN w w' :=
  (same_g hx hx w).mono fun _ _ ⟨⟨v, hr, hv⟩, hg⟩ => ⟨by rw [hr, hv.2 rfl], hg⟩
section
set_option maxRecDepth 100000 in
set_option maxHeartbeats 4000000 in
theorem does_walk (seed pc : Int) (hs : 0 ≤ seed ∧ seed < 18446744073709551616) (hp : 0 ≤ pc ∧ pc < 18446744073709551616)
    (A : Option Addr) (n cap : Nat) (W : World) (hT : Tab W) (hS : SlArg [some .i64, some .i64, some .u64, some .u64] W A n) (hn : n ≤ 70368744177664) :
    Calls Tryd.prog 6 #[.int .u64 seed, .int .u64 pc, .slice A n cap] W fun e w' => e = .returned (.bool true) ∧ Below W.heap.size W w' := by
  have HS := hide hS
  have HT := hide hT
  clear hS hT
  have H := hide (Heap.nil W)
  go_enter Tryd.func6, Tryd.ntmps6
  go_wp2_with fail
  refine (fixed_f (unhide HT) (unhide H)).mono ?_
  rintro rr w1 ⟨rfl, h1⟩
  have H := hide h1
  clear h1
  go_wp2_with fail
  refine (new_h (unhide H) seed hs.1 hs.2).mono ?_
  rintro rr w2 ⟨g, rfl, h1⟩
  have H := hide h1
  clear h1
  go_wp2_with fail
  refine (newR_h (unhide H) seed hs.1 hs.2).mono ?_
  rintro rr w3 ⟨gr, rfl, h1⟩
  generalize c0 seed = c at h1
  have H := hide h1
  clear h1
  go_wp2_with fail
  refine (new_f (g := g) (unhide H) pc hp.1 hp.2).mono ?_
  rintro rr w4 ⟨b, rfl, h1⟩
  have H := hide h1
  clear h1
  go_wp2_with fail
  refine (newR_f (g := gr) (unhide H) pc hp.1 hp.2).mono ?_
  rintro rr w5 ⟨br, rfl, h1⟩
  have hfi := hide (FI.new hp)
  generalize newF pc = F at h1 hfi
  have H := hide (Heap.sort (L1 := [_, _, _, _]) (L2 := [_, _, _, _]) (M := []) h1 [1, 3, 0, 2] rfl rfl (by decide))
  clear h1
  go_wp2_with fail
  go_loopw [11] (fun s wr => ∃ (k : Nat) (F : Fr) (c : St), s = .int .i64 k ∧ k ≤ n ∧ FI F ∧ Heap W wr [HP.fr b g F, HP.gg g c, HP.rf br gr F, HP.rg gr c]) (fun s _ => n - (intOf s).toNat)
  case atStart => exact ⟨0, F, c, rfl, Nat.zero_le _, unhide hfi, unhide H⟩
  case round =>
    clear H hfi
    obtain ⟨k, F, c, rfl, hk, hI, hJ⟩ := hrel
    have HI := hide hI
    clear hI
    by_cases hlt : k < n
    · obtain ⟨ab, ao, rfl, kd, nn, pc', to', ⟨x0, x1, x2, x3⟩, hnb, hpb, htb, hab⟩ := stepD_at (unhide HS) hJ.below hlt
      have J0 := Heap.sort (L1 := [_, _, _, _, _]) (L2 := [_, _, _, _, _]) (M := []) (hJ.new ([.int .i64 kd, .int .i64 nn, .int .u64 pc', .int .u64 to'] : List Value).toArray 59) [1, 2, 3, 4, 0] rfl rfl (by decide)
      obtain ⟨xb, hxb⟩ : ∃ xb, wr.heap.size = xb := ⟨_, rfl⟩
      rw [hxb] at J0
      obtain ⟨wx, hwx⟩ : ∃ wx, wr.alloc (.cells ([.int .i64 kd, .int .i64 nn, .int .u64 pc', .int .u64 to'] : List Value).toArray 59) = wx := ⟨_, rfl⟩
      rw [hwx] at J0
      have H := hide J0
      clear hJ J0
      go_upto_region 11 with fail
      clear x0 x1 x2 x3 hab hxb hwx
      have x0 : wx.cell? ⟨xb, 0, none⟩ = some (.int .i64 kd) := (cell_blk (Heap.heap (unhide H).f5) 0).1
      have x1 : wx.cell? ⟨xb, 1, none⟩ = some (.int .i64 nn) := (cell_blk (Heap.heap (unhide H).f5) 1).1
      have x2 : wx.cell? ⟨xb, 2, none⟩ = some (.int .u64 pc') := (cell_blk (Heap.heap (unhide H).f5) 2).1
      have x3 : wx.cell? ⟨xb, 3, none⟩ = some (.int .u64 to') := (cell_blk (Heap.heap (unhide H).f5) 3).1
      have hxl := lt_of_heap' (Heap.heap (unhide H).f5)
      by_cases q0 : kd = 0
      · subst q0
        obtain ⟨h, hh⟩ : ∃ h : Nat, (nn % 65536).toNat = h := ⟨_, rfl⟩
        have hw : IntKind.u16.wrap nn = (h : Nat) := by rw [IntKind.wrap_u16]; omega
        have hx : h < 65536 := by omega
        clear hh
        have hG := hide (give_f ((unhide HT).at (unhide H)) (unhide H) h hx)
        have hfi := hide ((unhide HI).give (Heap.gg.1 (unhide H).f2).1 hx)
        obtain ⟨F2, hF2⟩ : ∃ F2, giveF F c h = F2 := ⟨_, rfl⟩
        obtain ⟨c2, hc2⟩ : ∃ c2, giveC F c h = c2 := ⟨_, rfl⟩
        obtain ⟨cv, hcv⟩ : ∃ cv, canF F = cv := ⟨_, rfl⟩
        rw [hF2, hc2, hcv] at hG
        rw [hF2] at hfi
        have HF2 := hide hF2
        have Hc2 := hide hc2
        have Hcv := hide hcv
        clear hF2 hc2 hcv
        go_wp2_with fail
        refine (unhide hG).mono ?_
        rintro rr w5 ⟨rfl, h1⟩
        clear x0 x1 x2 x3 hxl hG
        have x0 : w5.cell? ⟨xb, 0, none⟩ = some (.int .i64 0) := (cell_blk (Heap.heap h1.f5) 0).1
        have x1 : w5.cell? ⟨xb, 1, none⟩ = some (.int .i64 nn) := (cell_blk (Heap.heap h1.f5) 1).1
        have x2 : w5.cell? ⟨xb, 2, none⟩ = some (.int .u64 pc') := (cell_blk (Heap.heap h1.f5) 2).1
        have x3 : w5.cell? ⟨xb, 3, none⟩ = some (.int .u64 to') := (cell_blk (Heap.heap h1.f5) 3).1
        have hxl := lt_of_heap' (Heap.heap h1.f5)
        have hG := hide (giveR_f (unhide HI) (unhide HT) (Heap.sort (L1 := [_, _, _, _, _]) (L2 := [_, _, _, _, _]) (M := []) (h1) [2, 3, 0, 1, 4] rfl rfl (by decide)) h hx)
        rw [unhide HF2, unhide Hc2, unhide Hcv] at hG
        clear h1
        go_wp2_with fail
        refine (unhide hG).mono ?_
        rintro rr w6 ⟨rfl, h1⟩
        clear x0 x1 x2 x3 hxl hG hw
        have H := hide (Heap.sort (L1 := [_, _, _, _, _]) (L2 := [_, _, _, _, _]) (M := []) (h1) [2, 3, 0, 1, 4] rfl rfl (by decide))
        clear h1
        go_wp2_with fail
        go_roundw
        case rel => exact ⟨k + 1, F2, c2, by simp, by omega, unhide hfi, (Heap.sort (L1 := [_, _, _, _, _]) (L2 := [_, _, _, _, _]) (M := []) (unhide H) [4, 0, 1, 2, 3] rfl rfl (by decide)).tail⟩
        case measure => simp [intOf]; omega
      · have z0 : (kd == 0) = false := beq_eq_false_iff_ne.2 q0
        by_cases q1 : kd = 1
        · subst q1
          obtain ⟨u, hu⟩ : ∃ u : Int, nn % 18446744073709551616 = u := ⟨_, rfl⟩
          have hw : IntKind.u64.wrap nn = u := by rw [IntKind.wrap_u64]; exact hu
          have hub : 0 ≤ u ∧ u < 18446744073709551616 := by omega
          clear hu
          have hG := hide (fail_f (unhide H) u hub)
          have hfi := hide ((unhide HI).fail hub)
          obtain ⟨F2, hF2⟩ : ∃ F2, failF F u = F2 := ⟨_, rfl⟩
          obtain ⟨cv, hcv⟩ : ∃ cv, canF F = cv := ⟨_, rfl⟩
          rw [hF2, hcv] at hG
          rw [hF2] at hfi
          have HF2 := hide hF2
          have Hcv := hide hcv
          clear hF2 hcv
          go_wp2_with fail
          refine (unhide hG).mono ?_
          rintro rr w5 ⟨rfl, h1⟩
          clear x0 x1 x2 x3 hxl hG
          have x0 : w5.cell? ⟨xb, 0, none⟩ = some (.int .i64 1) := (cell_blk (Heap.heap h1.f5) 0).1
          have x1 : w5.cell? ⟨xb, 1, none⟩ = some (.int .i64 nn) := (cell_blk (Heap.heap h1.f5) 1).1
          have x2 : w5.cell? ⟨xb, 2, none⟩ = some (.int .u64 pc') := (cell_blk (Heap.heap h1.f5) 2).1
          have x3 : w5.cell? ⟨xb, 3, none⟩ = some (.int .u64 to') := (cell_blk (Heap.heap h1.f5) 3).1
          have hxl := lt_of_heap' (Heap.heap h1.f5)
          have hG := hide (failR_f (unhide HI) (Heap.sort (L1 := [_, _, _, _, _]) (L2 := [_, _, _, _, _]) (M := []) (h1) [2, 0, 1, 3, 4] rfl rfl (by decide)) u hub)
          rw [unhide HF2, unhide Hcv] at hG
          clear h1
          go_wp2_with fail
          refine (unhide hG).mono ?_
          rintro rr w6 ⟨rfl, h1⟩
          clear x0 x1 x2 x3 hxl hG hw
          have H := hide (Heap.sort (L1 := [_, _, _, _, _]) (L2 := [_, _, _, _, _]) (M := []) (h1) [1, 2, 0, 3, 4] rfl rfl (by decide))
          clear h1
          go_wp2_with fail
          go_roundw
          case rel => exact ⟨k + 1, F2, c, by simp, by omega, unhide hfi, (Heap.sort (L1 := [_, _, _, _, _]) (L2 := [_, _, _, _, _]) (M := []) (unhide H) [4, 0, 1, 2, 3] rfl rfl (by decide)).tail⟩
          case measure => simp [intOf]; omega
        · have z1 : (kd == 1) = false := beq_eq_false_iff_ne.2 q1
          by_cases q2 : kd = 2
          · subst q2
            have hT_ := hide (take_f (unhide H))
            have hii := (unhide HI).take
            have hlen := (unhide HI).len
            obtain ⟨F2, hF2⟩ : ∃ F2, takeF F = F2 := ⟨_, rfl⟩
            have hyI : II (headI F) := by
              rcases hq : F.q with _ | ⟨y, q'⟩
              · rw [show headI F = zeroI from by unfold headI; rw [hq]; rfl]
                exact II_zero
              · rw [show headI F = y from by unfold headI; rw [hq]; rfl]
                exact (unhide HI).all y (by rw [hq]; simp)
            obtain ⟨y, hy⟩ : ∃ y, headI F = y := ⟨_, rfl⟩
            obtain ⟨v, hv⟩ : ∃ v, (!F.q.isEmpty) = v := ⟨_, rfl⟩
            rw [hF2, hy, hv] at hT_
            rw [hF2] at hii
            rw [hy] at hyI
            have HF2 := hide hF2
            have Hy := hide hy
            have Hv := hide hv
            have Hii := hide hii
            have HyI := hide hyI
            clear hF2 hy hv hii hyI
            go_upto_region 27 with fail
            clear x0 x1 x2 x3 hxl
            go_wp2_with fail
            refine (unhide hT_).mono ?_
            rintro r wt ⟨rfl, h1⟩
            clear hT_
            have hN := h1.clone #[.int .u64 0, .int .u32 0, .int .u32 0, .int .i64 0, .int .u64 0, .int .u64 0, .int .u64 0, .int .u64 0, .int .u64 0, .int .u64 0, .int .u64 0, .int .i64 0, .int .u64 0] 38 (itl (y)) rfl
            obtain ⟨kx, hkx⟩ : ∃ k, wt.heap.size = k := ⟨_, rfl⟩
            rw [hkx] at hN
            have HN := hide hN
            have Ht := hide (show (wt.alloc (.cells #[.int .u64 0, .int .u32 0, .int .u32 0, .int .i64 0, .int .u64 0, .int .u64 0, .int .u64 0, .int .u64 0, .int .u64 0, .int .u64 0, .int .u64 0, .int .i64 0, .int .u64 0] 38)).there kx 0 (itl (y)).toArray.size from by rw [← hkx]; exact there_new _ _ _ rfl)
            clear hN h1
            go_wp2_with (refine wpList_store_mid rfl 38 (.tmp 17) (.tmp 107) rfl kx 0 (itl (y)).toArray rfl rfl ?_ (by kernel_rfl) (all_oneCell_toArray (itl_cell (y))) ?_
                         rotate_left
                         refine unhide ?_)
            rotate_left
            · exact unhide Ht
            have hN := unhide HN
            change Hid (wpList _ _ _ _ _ ((wt.alloc (.cells #[.int .u64 0, .int .u32 0, .int .u32 0, .int .i64 0, .int .u64 0, .int .u64 0, .int .u64 0, .int .u64 0, .int .u64 0, .int .u64 0, .int .u64 0, .int .i64 0, .int .u64 0] 38)).setCells kx 0 (itl (y))))
            generalize (wt.alloc (.cells #[.int .u64 0, .int .u32 0, .int .u32 0, .int .i64 0, .int .u64 0, .int .u64 0, .int .u64 0, .int .u64 0, .int .u64 0, .int .u64 0, .int .u64 0, .int .i64 0, .int .u64 0] 38)).setCells kx 0 (itl (y)) = wu at hN ⊢
            clear HN Ht hkx
            have H := hide hN.f2
            clear hN
            refine hide ?_
            have hT_ := hide (takeR_f (Heap.sort (L1 := [_, _, _, _, _, _]) (L2 := [_, _, _, _, _, _]) (M := []) (unhide H) [3, 0, 1, 2, 4, 5] rfl rfl (by decide)) hlen)
            rw [unhide HF2, unhide Hy, unhide Hv] at hT_
            clear H
            go_wp2_with fail
            refine (unhide hT_).mono ?_
            rintro r wt ⟨rfl, h1⟩
            clear hT_
            have hN := h1.clone #[.int .u64 0, .int .u32 0, .int .u32 0, .int .i64 0, .int .u64 0, .int .u64 0, .int .u64 0, .int .u64 0, .int .u64 0, .int .u64 0, .int .u64 0, .int .i64 0, .int .u64 0] 61 (itl (y)) rfl
            obtain ⟨ky, hky⟩ : ∃ k, wt.heap.size = k := ⟨_, rfl⟩
            rw [hky] at hN
            have HN := hide hN
            have Ht := hide (show (wt.alloc (.cells #[.int .u64 0, .int .u32 0, .int .u32 0, .int .i64 0, .int .u64 0, .int .u64 0, .int .u64 0, .int .u64 0, .int .u64 0, .int .u64 0, .int .u64 0, .int .i64 0, .int .u64 0] 61)).there ky 0 (itl (y)).toArray.size from by rw [← hky]; exact there_new _ _ _ rfl)
            clear hN h1
            go_wp2_with (refine wpList_store_mid rfl 61 (.tmp 19) (.tmp 112) rfl ky 0 (itl (y)).toArray rfl rfl ?_ (by kernel_rfl) (all_oneCell_toArray (itl_cell (y))) ?_
                         rotate_left
                         refine unhide ?_)
            rotate_left
            · exact unhide Ht
            have hN := unhide HN
            change Hid (wpList _ _ _ _ _ ((wt.alloc (.cells #[.int .u64 0, .int .u32 0, .int .u32 0, .int .i64 0, .int .u64 0, .int .u64 0, .int .u64 0, .int .u64 0, .int .u64 0, .int .u64 0, .int .u64 0, .int .i64 0, .int .u64 0] 61)).setCells ky 0 (itl (y))))
            generalize (wt.alloc (.cells #[.int .u64 0, .int .u32 0, .int .u32 0, .int .i64 0, .int .u64 0, .int .u64 0, .int .u64 0, .int .u64 0, .int .u64 0, .int .u64 0, .int .u64 0, .int .i64 0, .int .u64 0] 61)).setCells ky 0 (itl (y)) = wu at hN ⊢
            clear HN Ht hky
            have H := hide hN.f2
            clear hN
            refine hide ?_
            have H := hide (Heap.sort (L1 := [_, _, _, _, _, _, _]) (L2 := [_, _, _, _, _, _, _]) (M := []) (unhide H) [2, 4, 0, 5, 6, 3, 1] rfl rfl (by decide))
            have Hq := hide (range_blk (Heap.heap (unhide H).f6) 0 13 (itl y) rfl)
            have Hq2 := hide (range_blk (Heap.heap (unhide H).f7) 0 13 (itl y) rfl)
            have hS := hide (fun w => same_self (unhide HyI) w)
            cases v
            all_goals
              go_wp2_with (first | refine wpList_load_mid_g (by kernel_rfl) 38 (.tmp 17) rfl kx 0 rfl (itl y) _ (unhide Hq) Tryd.underlying38 rfl (by kernel_rfl) ?_ | refine wpList_load_mid_g (by kernel_rfl) 61 (.tmp 19) rfl ky 0 rfl (itl y) _ (unhide Hq2) Tryd.underlying61 rfl (by kernel_rfl) ?_)
              refine (unhide hS _).mono ?_
              rintro rr w8 ⟨rfl, hg⟩
              have h1 := (unhide H).grown hg
              clear Hq Hq2 hS hg
              have H := hide (Heap.sort (L1 := [_, _, _, _, _, _, _]) (L2 := [_, _, _, _, _, _, _]) (M := []) h1 [6, 5, 4, 0, 1, 2, 3] rfl rfl (by decide)).tail.tail
              clear h1
              go_wp2_with fail
              go_roundw
              case rel => exact ⟨k + 1, F2, c, by simp, by omega, unhide Hii, (unhide H).tail⟩
              case measure => simp [intOf]; omega
          · have z2 : (kd == 2) = false := beq_eq_false_iff_ne.2 q2
            by_cases q3 : kd = 3
            · subst q3
              have hG := hide (redirect_f (unhide H) pc' hpb.1 hpb.2)
              have hfi := hide (FI.new hpb)
              obtain ⟨F2, hF2⟩ : ∃ F2, newF pc' = F2 := ⟨_, rfl⟩
              rw [hF2] at hG hfi
              have HF2 := hide hF2
              clear hF2
              go_wp2_with fail
              refine (unhide hG).mono ?_
              rintro rr w5 ⟨rfl, h1⟩
              clear x0 x1 x2 x3 hxl hG
              have x0 : w5.cell? ⟨xb, 0, none⟩ = some (.int .i64 3) := (cell_blk (Heap.heap h1.f5) 0).1
              have x1 : w5.cell? ⟨xb, 1, none⟩ = some (.int .i64 nn) := (cell_blk (Heap.heap h1.f5) 1).1
              have x2 : w5.cell? ⟨xb, 2, none⟩ = some (.int .u64 pc') := (cell_blk (Heap.heap h1.f5) 2).1
              have x3 : w5.cell? ⟨xb, 3, none⟩ = some (.int .u64 to') := (cell_blk (Heap.heap h1.f5) 3).1
              have hxl := lt_of_heap' (Heap.heap h1.f5)
              have hG := hide (redirectR_f (Heap.sort (L1 := [_, _, _, _, _]) (L2 := [_, _, _, _, _]) (M := []) (h1) [2, 0, 1, 3, 4] rfl rfl (by decide)) pc' hpb.1 hpb.2)
              rw [unhide HF2] at hG
              clear h1
              go_wp2_with fail
              refine (unhide hG).mono ?_
              rintro rr w6 ⟨rfl, h1⟩
              clear x0 x1 x2 x3 hxl hG
              have H := hide (Heap.sort (L1 := [_, _, _, _, _]) (L2 := [_, _, _, _, _]) (M := []) (h1) [1, 2, 0, 3, 4] rfl rfl (by decide))
              clear h1
              go_wp2_with fail
              go_roundw
              case rel => exact ⟨k + 1, F2, c, by simp, by omega, unhide hfi, (Heap.sort (L1 := [_, _, _, _, _]) (L2 := [_, _, _, _, _]) (M := []) (unhide H) [4, 0, 1, 2, 3] rfl rfl (by decide)).tail⟩
              case measure => simp [intOf]; omega
            · have z3 : (kd == 3) = false := beq_eq_false_iff_ne.2 q3
              by_cases q4 : kd = 4
              · subst q4
                have hG := hide (learn_h (unhide H).f2 pc' nn true to' hpb.1 hpb.2 htb.1 htb.2)
                obtain ⟨c2, hc2⟩ : ∃ c2, lSt c pc' nn true to' = c2 := ⟨_, rfl⟩
                rw [hc2] at hG
                have Hc2 := hide hc2
                clear hc2
                go_wp2_with fail
                refine (unhide hG).mono ?_
                rintro rr w5 ⟨rfl, h1⟩
                clear x0 x1 x2 x3 hxl hG
                have x0 : w5.cell? ⟨xb, 0, none⟩ = some (.int .i64 4) := (cell_blk (Heap.heap h1.f5) 0).1
                have x1 : w5.cell? ⟨xb, 1, none⟩ = some (.int .i64 nn) := (cell_blk (Heap.heap h1.f5) 1).1
                have x2 : w5.cell? ⟨xb, 2, none⟩ = some (.int .u64 pc') := (cell_blk (Heap.heap h1.f5) 2).1
                have x3 : w5.cell? ⟨xb, 3, none⟩ = some (.int .u64 to') := (cell_blk (Heap.heap h1.f5) 3).1
                have hxl := lt_of_heap' (Heap.heap h1.f5)
                have hG := hide (learnR_h (Heap.sort (L1 := [_, _, _, _, _]) (L2 := [_, _, _, _, _]) (M := []) (h1) [3, 0, 1, 2, 4] rfl rfl (by decide)) pc' nn true to' hpb.1 hpb.2 htb.1 htb.2)
                rw [unhide Hc2] at hG
                clear h1
                go_wp2_with fail
                refine (unhide hG).mono ?_
                rintro rr w6 ⟨rfl, h1⟩
                clear x0 x1 x2 x3 hxl hG
                have H := hide (Heap.sort (L1 := [_, _, _, _, _]) (L2 := [_, _, _, _, _]) (M := []) (h1) [2, 1, 3, 0, 4] rfl rfl (by decide))
                clear h1
                go_wp2_with fail
                go_roundw
                case rel => exact ⟨k + 1, F, c2, by simp, by omega, unhide HI, (Heap.sort (L1 := [_, _, _, _, _]) (L2 := [_, _, _, _, _]) (M := []) (unhide H) [4, 0, 1, 2, 3] rfl rfl (by decide)).tail⟩
                case measure => simp [intOf]; omega
              · have z4 : (kd == 4) = false := beq_eq_false_iff_ne.2 q4
                by_cases q5 : kd = 5
                · subst q5
                  go_upto_region 38 with fail
                  clear x0 x1 x2 x3 hxl
                  obtain ⟨hs0, A1, c1, Aq, cq, ho, hh⟩ := (Heap.sort (L1 := [_, _, _, _, _]) (L2 := [_, _, _, _, _]) (M := []) (unhide H) [2, 0, 1, 3, 4] rfl rfl (by decide)).rfo
                  have Ho := hide ho
                  unfold RB at hh
                  have hJ1 := Heap.sort (L1 := [_, _, _, _, _, _, _]) (L2 := [_, _, _, _, _, _, _]) (M := []) hh [3, 2, 0, 1, 4, 5, 6] rfl rfl (by decide)
                  clear ho hh
                  clear H
                  refine wp_region_XE 7 (fun fl_ w_ => Heap W w_ [HP.fr b g F, HP.slw (.slice Aq F.q.length cq) 13 F.q.length (itsC F.q), HP.blk br (rfv gr F (.slice A1 hs0.length c1) (.slice Aq F.q.length cq)).toArray 69, HP.slw (.slice A1 hs0.length c1) 1 hs0.length (hvs hs0), HP.gg g c, HP.rg gr c, HP.blk xb ([.int .i64 5, .int .i64 nn, .int .u64 pc', .int .u64 to'] : List Value).toArray 59]) (fun _ _ _ => True) (fun k_ v_ w_ => match k_ with
                      | 0 => v_ = .pointer (some ⟨b, 0, none⟩)
                      | 1 => v_ = .pointer (some ⟨br, 0, none⟩)
                      | 2 => v_ = .pointer (some ⟨br, 0, none⟩)
                      | 3 => v_ = .pointer (some ⟨br, 4, none⟩)
                      | 4 => v_ = .slice Aq F.q.length cq
                      | 5 => v_ = .pointer (some ⟨xb, 1, none⟩)
                      | 6 => v_ = .int .i64 nn
                      | _ => v_ = .bool true) fol (by kernel_rfl) ?_ ?_ (by decide) (n := 8) rfl rfl rfl (by kernel_rfl) ?_ ?_
                  · exact hJ1.drew
                  · intro i_ k_ v_ w_ w2_ hne h1 hg
                    split at h1 <;> exact h1
                  · intro vals
                    show wpX _ _ _ _ _ _ _ 0 (_ :: _) _
                    refine wpX_cons (xval (.pointer (some ⟨b, 0, none⟩)) (fun _ => trivial) (by decide) fun fl_ w_ hJ hd => ?_) ?_
                    · exact ⟨by kernel_rfl, by kernel_rfl, rfl⟩
                    refine wpX_cons (xval (.pointer (some ⟨br, 0, none⟩)) (fun _ => trivial) (by decide) fun fl_ w_ hJ hd => ?_) ?_
                    · exact ⟨by kernel_rfl, by kernel_rfl, rfl⟩
                    refine wpX_cons (xval (.pointer (some ⟨br, 0, none⟩)) (fun _ => trivial) (by decide) fun fl_ w_ hJ hd => ?_) ?_
                    · have e1 : vals 1 = _ := hd 1 (by decide) (by kernel_rfl)
                      rw [e1]
                      exact ⟨by kernel_rfl, by kernel_rfl, rfl⟩
                    refine wpX_cons (xval (.pointer (some ⟨br, 4, none⟩)) (fun _ => trivial) (by decide) fun fl_ w_ hJ hd => ?_) ?_
                    · have e2 : vals 2 = _ := hd 2 (by decide) (by kernel_rfl)
                      rw [e2]
                      exact ⟨by kernel_rfl, by kernel_rfl, rfl⟩
                    refine wpX_cons (xop (Instr.loadAt 67 (.pointer (some ⟨br, 4, none⟩))) (.slice Aq F.q.length cq) (fun _ => trivial) (by decide) fun fl_ w_ hJ hd => ?_) ?_
                    · have e3 : vals 3 = _ := hd 3 (by decide) (by kernel_rfl)
                      rw [e3]
                      exact ⟨by kernel_rfl, by kernel_rfl, run_load1 (by kernel_rfl) (cell_blk (Heap.heap hJ.f3) 4).1, rfl⟩
                    refine wpX_cons (xval (.pointer (some ⟨xb, 1, none⟩)) (fun _ => trivial) (by decide) fun fl_ w_ hJ hd => ?_) ?_
                    · exact ⟨by kernel_rfl, by kernel_rfl, rfl⟩
                    refine wpX_cons (xop (Instr.loadAt 3 (.pointer (some ⟨xb, 1, none⟩))) (.int .i64 nn) (fun _ => trivial) (by decide) fun fl_ w_ hJ hd => ?_) ?_
                    · have e5 : vals 5 = _ := hd 5 (by decide) (by kernel_rfl)
                      rw [e5]
                      exact ⟨by kernel_rfl, by kernel_rfl, run_load1 (by kernel_rfl) (cell_blk (Heap.heap hJ.f7) 1).1, rfl⟩
                    refine wpX_cons (xcall rfl 28 #[.pointer (some ⟨b, 0, none⟩), .slice Aq F.q.length cq, .int .i64 nn] fun w_ hJ hd => ?_) wpX_nil
                    · have e0 : vals 0 = _ := hd 0 (by decide) (by kernel_rfl)
                      have e4 : vals 4 = _ := hd 4 (by decide) (by kernel_rfl)
                      have e6 : vals 6 = _ := hd 6 (by decide) (by kernel_rfl)
                      rw [e0, e4, e6]
                      exact ⟨by kernel_rfl, by kernel_rfl, (told_f nn hJ).mono fun r_ w'' ⟨hr_, h_⟩ => ⟨_, hr_, h_, trivial, rfl⟩⟩
                  · intro vals w_ hJ hf
                    have e0 : vals 0 = _ := hf 0 (by decide)
                    have e1 : vals 1 = _ := hf 1 (by decide)
                    have e2 : vals 2 = _ := hf 2 (by decide)
                    have e3 : vals 3 = _ := hf 3 (by decide)
                    have e4 : vals 4 = _ := hf 4 (by decide)
                    have e5 : vals 5 = _ := hf 5 (by decide)
                    have e6 : vals 6 = _ := hf 6 (by decide)
                    have e7 : vals 7 = _ := hf 7 (by decide)
                    show Oper.wp _ _ (fillG vals 0 (_ :: _ :: _ :: _ :: _ :: _ :: _ :: _ :: []) _) _ _ _
                    simp only [fillG, Nat.zero_add, Nat.reduceAdd, e0, e1, e2, e3, e4, e5, e6, e7, Act.put, List.setIfInBounds_toArray, List.set_cons_succ, List.set_cons_zero]
                    clear e0 e1 e2 e3 e4 e5 e6 e7 hf
                    refine wp_last_value (v := .bool true) (w' := w_) (by kernel_rfl) ?_
                    show Exit.then _ _ Exit.normal (Act.put ⟨_, _⟩ (some 21) _) _
                    simp only [Act.put, List.setIfInBounds_toArray, List.set_cons_succ, List.set_cons_zero]
                    have h2 := Heap.rfc hs0 _ _ (unhide Ho) (Heap.sort (L1 := [_, _, _, _, _, _, _]) (L2 := [_, _, _, _, _, _, _]) (M := []) hJ [2, 3, 1, 0, 4, 5, 6] rfl rfl (by decide))
                    have H := hide (Heap.sort (L1 := [_, _, _, _, _]) (L2 := [_, _, _, _, _]) (M := []) (h2) [1, 2, 0, 3, 4] rfl rfl (by decide))
                    clear h2 hJ hJ1
                    go_wp2_with fail
                    go_roundw
                    case rel => exact ⟨k + 1, F, c, by simp, by omega, unhide HI, (Heap.sort (L1 := [_, _, _, _, _]) (L2 := [_, _, _, _, _]) (M := []) (unhide H) [4, 0, 1, 2, 3] rfl rfl (by decide)).tail⟩
                    case measure => simp [intOf]; omega
                · have z5 : (kd == 5) = false := beq_eq_false_iff_ne.2 q5
                  obtain ⟨av, hav⟩ : ∃ av, (bif canF F then atF F else 0) = av := ⟨_, rfl⟩
                  obtain ⟨cv, hcv⟩ : ∃ cv, canF F = cv := ⟨_, rfl⟩
                  have hW := hide (want_f (unhide H))
                  rw [hav, hcv] at hW
                  have Hav := hide hav
                  have Hcv := hide hcv
                  clear hav hcv
                  go_wp2_with fail
                  refine (unhide hW).mono ?_
                  rintro rr w5 ⟨rfl, h1⟩
                  have H := hide h1
                  have hW := hide (wantR_f (unhide HI) (Heap.sort (L1 := [_, _, _, _, _]) (L2 := [_, _, _, _, _]) (M := []) (h1) [2, 0, 1, 3, 4] rfl rfl (by decide)))
                  rw [unhide Hav, unhide Hcv] at hW
                  clear h1 x0 x1 x2 x3 hxl
                  go_wp2_with fail
                  refine (unhide hW).mono ?_
                  rintro rr w6 ⟨rfl, hg⟩
                  have H := hide ((unhide H).grown hg)
                  clear hW hg
                  go_wp2_with fail
                  go_roundw
                  case rel => exact ⟨k + 1, F, c, by simp, by omega, unhide HI, (Heap.sort (L1 := [_, _, _, _, _]) (L2 := [_, _, _, _, _]) (M := []) (unhide H) [4, 0, 1, 2, 3] rfl rfl (by decide)).tail⟩
                  case measure => simp [intOf]; omega
    · obtain rfl : k = n := by omega
      have H := hide hJ
      clear hJ
      obtain ⟨av, hav⟩ : ∃ av, (bif canF F then atF F else 0) = av := ⟨_, rfl⟩
      obtain ⟨cv, hcv⟩ : ∃ cv, canF F = cv := ⟨_, rfl⟩
      have hW := hide (want_f (unhide H))
      rw [hav, hcv] at hW
      have Hav := hide hav
      have Hcv := hide hcv
      clear hav hcv
      go_wp2_with fail
      refine (unhide hW).mono ?_
      rintro rr w5 ⟨rfl, h1⟩
      have H := hide h1
      have hW := hide (wantR_f (unhide HI) (Heap.sort (L1 := [_, _, _, _]) (L2 := [_, _, _, _]) (M := []) (h1) [2, 0, 1, 3] rfl rfl (by decide)))
      rw [unhide Hav, unhide Hcv] at hW
      clear h1
      go_wp2_with fail
      refine (unhide hW).mono ?_
      rintro rr w6 ⟨rfl, hg⟩
      have H := hide ((unhide H).grown hg)
      clear hW hg
      obtain ⟨hs0, A1, c1, Aq, cq, ho, hh⟩ := (Heap.sort (L1 := [_, _, _, _]) (L2 := [_, _, _, _]) (M := []) (unhide H) [2, 0, 1, 3] rfl rfl (by decide)).rfo
      have Ho := hide ho
      unfold RB at hh
      have hJ1 := Heap.sort (L1 := [_, _, _, _, _, _]) (L2 := [_, _, _, _, _, _]) (M := []) hh [3, 2, 0, 1, 4, 5] rfl rfl (by decide)
      clear ho hh
      have d4 : w6.cell? ⟨br, 4, none⟩ = some (.slice Aq F.q.length cq) := (cell_blk (Heap.heap hJ1.f3) 4).1
      have hbl := lt_of_heap' (Heap.heap hJ1.f3)
      have HJ := hide hJ1
      clear hJ1 H
      go_wp2_with fail
      refine (told_f (-1) (unhide HJ)).mono ?_
      rintro rr w7 ⟨rfl, h1⟩
      clear d4 hbl
      go_wp2_with fail
      go_ret
      exact ⟨rfl, h1.below⟩
end
end Go.Proofs.YtblbgalpkodibaaDoor
