/- Layer 20: fixed. -/
import Derived.Test.YtblbgalpkodibaaDoorF6
namespace Go.Proofs.YtblbgalpkodibaaDoor
open Go.RowKit Go.Shelf
attribute [local go_sem] Oper.semAt_some
theorem run_nilf (k : Nat) (w : World) : (binOp .eql 47 (.func (.func 37) #[] #[.pointer (some ⟨k, 0, none⟩)]) .nilFunc).run Tryd.prog w = .ok (.bool false) w := by kernel_rfl
theorem Tab.at {w0 w : World} {L : List HP} (hT : Tab w0) (h : Heap w0 w L) : Tab w := hT.gn (gn_of_below h.below)
theorem dull_whole {F : Fr} {c : St} (hd : Dull c) (he : F.at_ % 2 = 0) (bits inst size : Int) (hs : size = 2 ∨ size = 4) : wholeF F c bits inst size = { F with at_ := w64 (F.at_ + size), some := false, q := F.q ++ [⟨F.at_, bits, inst, size, 0, 0, w64 (F.at_ + size), c⟩] } := by
  unfold wholeF wItem
  rw [(dull_next hd _ _).1, evn_behind he hs]
theorem dull_c0 (s : Int) : Dull (c0 s) := fun i hi => by unfold c0; rw [if_neg (by omega)]
def fx1 (c : St) : It := ⟨2147483648, 17669, 1049875, 2, 0, 0, 2147483650, c⟩
def fx2 : It := ⟨2147483650, 0, 0, 0, 12, 2147483652, 0, Z0⟩
def fF1 (c : St) : Fr := ⟨2147483650, 0, false, false, [fx1 c]⟩
def fF2 (c : St) : Fr := ⟨2147483650, 1299, true, false, [fx1 c]⟩
def fF3 (c : St) : Fr := ⟨2147483650, 1299, true, true, [fx1 c, fx2]⟩
def fF4 : Fr := ⟨2147483650, 1299, true, true, [fx2]⟩
def fF5 : Fr := ⟨2147483650, 1299, true, true, []⟩
theorem ex_4505 : exN 17669 = 1049875 := by kernel_rfl
theorem give1 {c : St} (hd : Dull c) : giveF (newF 2147483649) c 17669 = fF1 c := by
  have e : giveF (newF 2147483649) c 17669 = wholeF (newF 2147483649) c (17669 : Nat) (exN 17669) 2 := by
    unfold giveF
    rw [and16_3, ex_4505]
    rfl
  rw [e, dull_whole hd rfl _ _ 2 (.inl rfl), ex_4505]
  rfl
theorem give2 (c : St) : giveF (fF1 c) c 1299 = fF2 c := by
  unfold giveF
  rw [and16_3]
  rfl
theorem fail3 (c : St) : failF (fF2 c) 12 = fF3 c := rfl
theorem give7 (c : St) : giveF fF5 c 1 = fF5 := rfl
def numI (l : List It) : Int := l.foldl (fun n x => wrap64 (wrap64 (n * 10) + x.size)) 0
theorem numI_snoc (l : List It) (x : It) : numI (l ++ [x]) = wrap64 (wrap64 (numI l * 10) + x.size) := by unfold numI; rw [List.foldl_append]; rfl
section
variable {w0 w w' : World} {L : List HP} {b g : Nat} {F : Fr} {c : St}
set_option maxRecDepth 100000 in
set_option maxHeartbeats 4000000 in
theorem fixed_f (hT : Tab w0) (h : Heap w0 w L) :
    Calls Tryd.prog 8 #[] w fun r w' => r = .returned (.bool true) ∧ Heap w0 w' L := by
  refine (callsIn_wide (n := 6)).1 ?_
  refine callsIn_of_wp_marks Tryd.func8 rfl trivial ?_ rfl
  simp only [Tryd.ntmps8, List.size_toArray, List.length_nil, Nat.reduceSub, Array.replicate_succ, Array.replicate_zero, List.push_toArray, List.append_toArray, List.nil_append, List.cons_append]
  refine (wpIn_wide (n := 6)).2 ?_
  have H := hide h
  have HT := hide hT
  clear h hT
  go_wp2_with fail
  refine (new_h (unhide H) 0 (by decide) (by decide)).mono ?_
  rintro r w1 ⟨g, rfl, h1⟩
  have hd := hide (dull_c0 0)
  generalize c0 0 = c at h1 hd
  have H := hide h1
  clear h1
  go_wp2_with fail
  refine (new_f (g := g) (unhide H) 2147483649 (by decide) (by decide)).mono ?_
  rintro r w2 ⟨b, rfl, h1⟩
  have H := hide h1
  clear h1
  go_wp2_with fail
  refine (items_f w2 b).mono ?_
  rintro r w3 ⟨rfl, rfl⟩
  have H := hide ((unhide H).alloc (.cells #[.pointer (some ⟨b, 0, none⟩)] 25))
  generalize w2.alloc (.cells #[.pointer (some ⟨b, 0, none⟩)] 25) = w3 at H ⊢
  have hnf := run_nilf w2.heap.size w3
  have hW := hide (want_f (unhide H))
  rw [show canF (newF 2147483649) = true from rfl, show (bif true then atF (newF 2147483649) else 0) = 2147483648 from rfl] at hW
  go_wp2_with fail
  refine (unhide hW).mono ?_
  rintro r w4 ⟨rfl, h1⟩
  have hG := hide (give_f ((unhide HT).at h1) h1 17669 (by decide))
  rw [show canF (newF 2147483649) = true from rfl, give1 (unhide hd)] at hG
  clear H hW h1 hnf
  go_wp2_with fail
  refine (unhide hG).mono ?_
  rintro r w5 ⟨rfl, h1⟩
  rw [show giveC (newF 2147483649) c 17669 = c from giveC_dull (unhide hd) _] at h1
  have hG2 := hide (give_f ((unhide HT).at h1) h1 1299 (by decide))
  rw [show canF (fF1 c) = true from rfl, give2] at hG2
  clear hG h1
  go_wp2_with fail
  refine (unhide hG2).mono ?_
  rintro r w6 ⟨rfl, h1⟩
  rw [show giveC (fF1 c) c 1299 = c from giveC_dull (unhide hd) _] at h1
  have hW := hide (want_f h1)
  rw [show canF (fF2 c) = true from rfl, show (bif true then atF (fF2 c) else 0) = 2147483652 from rfl] at hW
  clear hG2 h1
  go_wp2_with fail
  refine (unhide hW).mono ?_
  rintro r w7 ⟨rfl, h1⟩
  have hX := hide (fail_f h1 12 (by decide))
  rw [show canF (fF2 c) = true from rfl, fail3] at hX
  clear hW h1
  go_wp2_with fail
  refine (unhide hX).mono ?_
  rintro r w8 ⟨rfl, h1⟩
  obtain ⟨A, cap, hC, hh⟩ := h1.fc
  have hI := hC.I
  have hJ0 := (hh.new ([.int .i64 0] : List Value).toArray 3).new #[.pointer (some ⟨b, 0, none⟩)] 25
  obtain ⟨kn, hkn⟩ : ∃ kn, w8.heap.size = kn := ⟨_, rfl⟩
  clear hX h1 hC hh
  go_wp2_with fail
  refine (items_f _ b).mono ?_
  rintro r w9 ⟨rfl, rfl⟩
  simp only [World.size_alloc, hkn] at hJ0
  go_wp2_with fail
  obtain ⟨box, hbox⟩ : ∃ box, kn + 1 = box := ⟨_, rfl⟩
  rw [hbox] at hJ0 ⊢
  unfold FB at hJ0
  have hJ0 : Heap w0 ((w8.alloc (.cells ([.int .i64 0] : List Value).toArray 3)).alloc (.cells #[.pointer (some ⟨b, 0, none⟩)] 25)) (HP.blk box #[.pointer (some ⟨b, 0, none⟩)] 25 :: FB b g (fF3 c) (.slice A (fF3 c).q.length cap) (HP.blk kn ([.int .i64 (numI [])] : List Value).toArray 3 :: HP.gg g c :: L)) := Heap.sort (L1 := [_, _, _, _]) (L2 := [_, _, _, _]) hJ0 [0, 2, 3, 1] rfl rfl (by decide)
  generalize ((w8.alloc (.cells ([.int .i64 0] : List Value).toArray 3)).alloc (.cells #[.pointer (some ⟨b, 0, none⟩)] 25)) = W1 at hJ0 ⊢
  unfold FB at hJ0
  obtain ⟨P, hP, hJ1, back⟩ := Heap.pinL (Y := [_, _, _, _, _]) hJ0
  have hknl := lt_of_heap' (Heap.heap hJ0.f4)
  clear hJ0 hkn hbox
  refine range_items (γ := Unit) (fun pre => [HP.blk kn ([.int .i64 (numI pre)] : List Value).toArray 3, HP.gg g c, P]) (fun _ => True) (fun _ _ _ => False) (fun _ => []) rfl hI rfl rfl rfl rfl rfl rfl (s := 11) (show 51 < 152 by decide) (show 11 < 152 by decide) (by decide)
    (fun _ => .blk (.gg (.cons hP .nil))) (fun _ => .nil) trivial hJ1 ?body ?done (fun _ _ _ _ _ h _ _ => h.elim)
  case body =>
    rintro l pre x kx W _ hlt hkB hkx hB
    simp only [List.setIfInBounds_toArray, List.set_cons_succ, List.set_cons_zero]
    have x3 : W.cell? ⟨kx, 3, none⟩ = some (.int .i64 x.size) := (cell_blk hkx 3).1
    have hkl := lt_of_heap' hkx
    unfold FB at hB
    have n0 : W.cell? ⟨kn, 0, none⟩ = some (.int .i64 (numI pre)) := (cell_blk (Heap.heap hB.f4) 0).1
    have n0f := (cell_blk (Heap.heap hB.f4) 0).2
    have hknl := lt_of_heap' (Heap.heap hB.f4)
    have HB := hide hB
    clear hB
    gi_wp2
    refine ⟨by rw [size_setCell]; exact Nat.le_refl _, trivial, ?_⟩
    have h5 := (unhide HB).f4.setl 0 (.int .i64 (numI (pre ++ [x])))
    rw [numI_snoc] at h5
    have h6 := Heap.sort (L1 := [_, _, _, _]) (L2 := [_, _, _, _]) h5 [1, 2, 3, 0] rfl rfl (by decide)
    unfold FB
    show Heap w0 _ (_ :: _ :: _ :: HP.blk kn ([.int .i64 (numI (pre ++ [x]))] : List Value).toArray 3 :: HP.gg g c :: [P])
    rw [numI_snoc]
    exact h6
  case done =>
    rintro D W _ hJ
    rw [show numI (fF3 c).q = 20 from by kernel_rfl] at hJ
    unfold FB at hJ
    have hJ := back (Z := [_, _, _, _, _]) hJ
    have hJ := Heap.fr.2 ⟨_, hI, Heap.sort (L1 := [_, _, _]) (L2 := [_, _, _]) hJ [1, 2, 0] rfl rfl (by decide)⟩
    have H := hide hJ
    clear hJ back
    have hT_ := hide (take_f (unhide H))
    rw [show headI (fF3 c) = fx1 c from rfl, show (!(fF3 c).q.isEmpty) = true from rfl, show takeF (fF3 c) = fF4 from rfl] at hT_
    clear H
    go_wp2_with fail
    refine (unhide hT_).mono ?_
    rintro r wt ⟨rfl, h1⟩
    clear hT_
    have hN := h1.clone #[.int .u64 0, .int .u32 0, .int .u32 0, .int .i64 0, .int .u64 0, .int .u64 0, .int .u64 0, .int .u64 0, .int .u64 0, .int .u64 0, .int .u64 0, .int .i64 0, .int .u64 0] 38 (itl (fx1 c)) rfl
    obtain ⟨k1, hk1⟩ : ∃ k, wt.heap.size = k := ⟨_, rfl⟩
    rw [hk1] at hN
    have HN := hide hN
    have Ht := hide (show (wt.alloc (.cells #[.int .u64 0, .int .u32 0, .int .u32 0, .int .i64 0, .int .u64 0, .int .u64 0, .int .u64 0, .int .u64 0, .int .u64 0, .int .u64 0, .int .u64 0, .int .i64 0, .int .u64 0] 38)).there k1 0 (itl (fx1 c)).toArray.size from by rw [← hk1]; exact there_new _ _ _ rfl)
    clear hN h1
    go_wp2_with (refine wpList_store_mid rfl 38 (.tmp 12) (.tmp 60) rfl k1 0 (itl (fx1 c)).toArray rfl rfl ?_ (by kernel_rfl) (all_oneCell_toArray (itl_cell (fx1 c))) ?_
                 rotate_left
                 refine unhide ?_)
    rotate_left
    · exact unhide Ht
    have hN := unhide HN
    change Hid (wpList _ _ _ _ _ ((wt.alloc (.cells #[.int .u64 0, .int .u32 0, .int .u32 0, .int .i64 0, .int .u64 0, .int .u64 0, .int .u64 0, .int .u64 0, .int .u64 0, .int .u64 0, .int .u64 0, .int .i64 0, .int .u64 0] 38)).setCells k1 0 (itl (fx1 c))))
    generalize (wt.alloc (.cells #[.int .u64 0, .int .u32 0, .int .u32 0, .int .i64 0, .int .u64 0, .int .u64 0, .int .u64 0, .int .u64 0, .int .u64 0, .int .u64 0, .int .u64 0, .int .i64 0, .int .u64 0] 38)).setCells k1 0 (itl (fx1 c)) = wu at hN ⊢
    clear HN Ht hk1
    have H := hide hN.f2
    clear hN
    refine hide ?_
    have hT_ := hide (take_f (unhide H))
    rw [show headI (fF4) = fx2 from rfl, show (!(fF4).q.isEmpty) = true from rfl, show takeF (fF4) = fF5 from rfl] at hT_
    clear H
    go_wp2_with fail
    refine (unhide hT_).mono ?_
    rintro r wt ⟨rfl, h1⟩
    clear hT_
    have hN := h1.clone #[.int .u64 0, .int .u32 0, .int .u32 0, .int .i64 0, .int .u64 0, .int .u64 0, .int .u64 0, .int .u64 0, .int .u64 0, .int .u64 0, .int .u64 0, .int .i64 0, .int .u64 0] 38 (itl (fx2)) rfl
    obtain ⟨k2, hk2⟩ : ∃ k, wt.heap.size = k := ⟨_, rfl⟩
    rw [hk2] at hN
    have HN := hide hN
    have Ht := hide (show (wt.alloc (.cells #[.int .u64 0, .int .u32 0, .int .u32 0, .int .i64 0, .int .u64 0, .int .u64 0, .int .u64 0, .int .u64 0, .int .u64 0, .int .u64 0, .int .u64 0, .int .i64 0, .int .u64 0] 38)).there k2 0 (itl (fx2)).toArray.size from by rw [← hk2]; exact there_new _ _ _ rfl)
    clear hN h1
    go_wp2_with (refine wpList_store_mid rfl 38 (.tmp 14) (.tmp 65) rfl k2 0 (itl (fx2)).toArray rfl rfl ?_ (by kernel_rfl) (all_oneCell_toArray (itl_cell (fx2))) ?_
                 rotate_left
                 refine unhide ?_)
    rotate_left
    · exact unhide Ht
    have hN := unhide HN
    change Hid (wpList _ _ _ _ _ ((wt.alloc (.cells #[.int .u64 0, .int .u32 0, .int .u32 0, .int .i64 0, .int .u64 0, .int .u64 0, .int .u64 0, .int .u64 0, .int .u64 0, .int .u64 0, .int .u64 0, .int .i64 0, .int .u64 0] 38)).setCells k2 0 (itl (fx2))))
    generalize (wt.alloc (.cells #[.int .u64 0, .int .u32 0, .int .u32 0, .int .i64 0, .int .u64 0, .int .u64 0, .int .u64 0, .int .u64 0, .int .u64 0, .int .u64 0, .int .u64 0, .int .i64 0, .int .u64 0] 38)).setCells k2 0 (itl (fx2)) = wu at hN ⊢
    clear HN Ht hk2
    have H := hide hN.f2
    clear hN
    refine hide ?_
    have hT_ := hide (take_f (unhide H))
    rw [show headI (fF5) = zeroI from rfl, show (!(fF5).q.isEmpty) = false from rfl, show takeF (fF5) = fF5 from rfl] at hT_
    clear H
    go_wp2_with fail
    refine (unhide hT_).mono ?_
    rintro r wt ⟨rfl, h1⟩
    clear hT_
    have hN := h1.clone #[.int .u64 0, .int .u32 0, .int .u32 0, .int .i64 0, .int .u64 0, .int .u64 0, .int .u64 0, .int .u64 0, .int .u64 0, .int .u64 0, .int .u64 0, .int .i64 0, .int .u64 0] 38 (itl (zeroI)) rfl
    obtain ⟨k3, hk3⟩ : ∃ k, wt.heap.size = k := ⟨_, rfl⟩
    rw [hk3] at hN
    have HN := hide hN
    have Ht := hide (show (wt.alloc (.cells #[.int .u64 0, .int .u32 0, .int .u32 0, .int .i64 0, .int .u64 0, .int .u64 0, .int .u64 0, .int .u64 0, .int .u64 0, .int .u64 0, .int .u64 0, .int .i64 0, .int .u64 0] 38)).there k3 0 (itl (zeroI)).toArray.size from by rw [← hk3]; exact there_new _ _ _ rfl)
    clear hN h1
    go_wp2_with (refine wpList_store_mid rfl 38 (.tmp 16) (.tmp 70) rfl k3 0 (itl (zeroI)).toArray rfl rfl ?_ (by kernel_rfl) (all_oneCell_toArray (itl_cell (zeroI))) ?_
                 rotate_left
                 refine unhide ?_)
    rotate_left
    · exact unhide Ht
    have hN := unhide HN
    change Hid (wpList _ _ _ _ _ ((wt.alloc (.cells #[.int .u64 0, .int .u32 0, .int .u32 0, .int .i64 0, .int .u64 0, .int .u64 0, .int .u64 0, .int .u64 0, .int .u64 0, .int .u64 0, .int .u64 0, .int .i64 0, .int .u64 0] 38)).setCells k3 0 (itl (zeroI))))
    generalize (wt.alloc (.cells #[.int .u64 0, .int .u32 0, .int .u32 0, .int .i64 0, .int .u64 0, .int .u64 0, .int .u64 0, .int .u64 0, .int .u64 0, .int .u64 0, .int .u64 0, .int .i64 0, .int .u64 0] 38)).setCells k3 0 (itl (zeroI)) = wu at hN ⊢
    clear HN Ht hk3
    have H := hide hN.f2
    clear hN
    refine hide ?_
    have hG := hide (give_f ((unhide HT).at (unhide H)) (Heap.sort (L1 := [_, _, _, _, _, _, _]) (L2 := [_, _, _, _, _, _, _]) (unhide H) [0, 6, 1, 2, 3, 4, 5] rfl rfl (by decide)) 1 (by decide))
    rw [show canF fF5 = false from rfl, give7, show giveC fF5 c 1 = c from rfl] at hG
    clear H
    go_wp2_with fail
    refine (unhide hG).mono ?_
    rintro r wv ⟨rfl, h1⟩
    have hR := hide (redirect_f h1 8 (by decide) (by decide))
    clear hG h1
    go_wp2_with fail
    refine (unhide hR).mono ?_
    rintro r wy ⟨rfl, h1⟩
    have hW := hide (want_f h1)
    rw [show canF (newF 8) = true from rfl, show (bif true then atF (newF 8) else 0) = 8 from rfl] at hW
    clear hR h1
    go_wp2_with fail
    refine (unhide hW).mono ?_
    rintro r wz ⟨rfl, h1⟩
    have n0 : wz.cell? ⟨kn, 0, none⟩ = some (.int .i64 20) := (cell_blk (Heap.heap (h1.nth 6 rfl)) 0).1
    have x2 : wz.cell? ⟨k1, 2, none⟩ = some (.int .u32 1049875) := (cell_blk (Heap.heap (h1.nth 4 rfl)) 2).1
    have x6 : wz.cell? ⟨k1, 6, none⟩ = some (.int .u64 2147483650) := (cell_blk (Heap.heap (h1.nth 4 rfl)) 6).1
    have y4 : wz.cell? ⟨k2, 4, none⟩ = some (.int .u64 12) := (cell_blk (Heap.heap (h1.nth 3 rfl)) 4).1
    have y5 : wz.cell? ⟨k2, 5, none⟩ = some (.int .u64 2147483652) := (cell_blk (Heap.heap (h1.nth 3 rfl)) 5).1
    have y0 : wz.cell? ⟨k2, 0, none⟩ = some (.int .u64 2147483650) := (cell_blk (Heap.heap (h1.nth 3 rfl)) 0).1
    have hl0 := lt_of_heap' (Heap.heap (h1.nth 6 rfl))
    have hl1 := lt_of_heap' (Heap.heap (h1.nth 4 rfl))
    have hl2 := lt_of_heap' (Heap.heap (h1.nth 3 rfl))
    have H := hide h1
    clear hW h1
    go_wp2
    exact leaves_mark ((unhide H).nth 5 rfl) fun w' hJ => ⟨_, results_tmp rfl _ _ _, rfl, Heap.dropL (M := [_, _, _, _, _, _]) hJ⟩
end
end Go.Proofs.YtblbgalpkodibaaDoor
