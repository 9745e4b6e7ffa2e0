/- Layer 3, the document's side: whole: the walk. -/
import Derived.Test.YtopbdiekfhikmaaW1
import Derived.Test.YtopbdiekfhikmaaW4
namespace Go.Proofs.Ytopbdiekfhikmaa
open Go.RowKit
def wF : List RowS := [⟨4261441663, 1073741875, 14, ⟨#[100, 49, 50]⟩, 0, false, false⟩, ⟨4261441663, 1073762355, 20, ⟨#[100, 49, 50]⟩, 0, false, false⟩]
def wG : List RowS := [⟨28799, 27, 13, ⟨#[100, 49, 73, 61]⟩, 0, true, false⟩, ⟨4261441663, 59, 13, ⟨#[100, 49, 50]⟩, 0, true, false⟩, ⟨4261441663, 1073741883, 14, ⟨#[100, 49, 50]⟩, 0, true, false⟩]
def wI : List RowS := [⟨4261441663, 33554491, 23, ⟨#[100, 49, 50]⟩, 0, true, false⟩]
def wholeL : List RowS := wA ++ upto wB 6 ++ uptoL wC 4 ++ uptoL wD 3 ++ uptoL wE 8 ++ wF ++ uptoL wH 3 ++ wG ++ wI ++ uptoL (fun j => [wJ (4 + j)]) (8 - 4)
theorem Heap.rev4 {w0 w : World} {A B C D : HP} {L : List HP} (h : Heap w0 w (A :: B :: C :: D :: L)) : Heap w0 w (D :: C :: B :: A :: L) := h.perm ((List.reverse_perm [A, B, C, D]).symm.append_right L)
section
variable {w0 w : World} {L : List HP}
set_option maxRecDepth 1000000 in
set_option maxHeartbeats 8000000 in
theorem whole_any (h : Heap w0 w L) : Calls Try.prog 41 #[] w fun r w' => ∃ A m cap, r = .returned (.slice A m cap) ∧ m ≤ 100 ∧ Heap w0 w' (HP.slw (.slice A m cap) 7 m (rowsC wholeL) :: L) := by
  have H := hide h
  clear h
  obtain ⟨i1, hi1, hz0, hz1, hz2⟩ := info_parts info49
  go_enter Try.func41, Try.ntmps41
  go_wp2_with fail
  refine (op_w 55 1 ⟨#[100, 85]⟩ _).mono ?_
  rintro r w1 ⟨rfl, g1⟩
  have H1 := hide ((unhide H).grown g1)
  clear g1 H
  go_wp2_with fail
  refine (op_w 23 2 ⟨#[100, 85]⟩ _).mono ?_
  rintro r w2 ⟨rfl, g1⟩
  have H2 := hide ((unhide H1).grown g1)
  clear g1 H1
  go_wp2_with fail
  refine (op_w 111 3 ⟨#[100, 74]⟩ _).mono ?_
  rintro r w3 ⟨rfl, g1⟩
  have H3 := hide ((unhide H2).grown g1)
  clear g1 H2
  go_wp2_with fail
  refine (op3_w 103 0 103 4 ⟨#[100, 49, 73]⟩ _ (by decide) (by decide) (by decide) (by decide) rfl).mono ?_
  rintro r w4 ⟨rfl, g1⟩
  have H4 := hide ((unhide H3).grown g1)
  clear g1 H3
  have H5 := hide ((unhide H4).newS (rowsC wA) 49 4 7 rfl)
  have H6 := hide ((unhide H5).newS brs 22 6 1 rfl)
  clear H4 H5
  go_wp2
  have h7 := (unhide H6).f2
  have e : ∀ X : Obj, (w4.alloc X).heap.size = w4.heap.size + 1 := fun X => by simp
  rw [e] at h7
  have H7 := hide h7
  clear H6 h7 e
  refine loopW2 (n0 := 4) (by omega) _ _ _ _ _ _ _ _ _ _ _ _ _ _ _ _ _ _ _ _ _ _ _ _ _ _ _ _ _ _ _ _ _ _ _ _ _ _ _ _ _ _ _ _ _ _ _ _ _ _ _ _ _ _ _ _ _ _ _ _ _ _ _ _ _ _ _ _ _ _ _ _ _ _ _ _ _ _ _ _ _ _ _ _ _ _ _ _ _ _ _ _ _ _ _ _ _ _ _ _ _ _ _ _ _ _ _ _ _ _ _ _ _ _ _ _ _ _ _ _ _ _ _ _ _ _ _ _ _ _ _ _ _ _ _ _ _ _ _ _ _ _ _ _ _ _ _ _ _ _ _ _ _ _ _ _ _ _ _ _ _ _ _ _ _ _ _ _ _ _ _ _ _ _ _ _ _ _ (Nat.le_refl 4) (unhide H7) _ _ _ _ _ _ _ _ _ _ _ _ _ _ ?_
  clear H7
  intro a' w'' hX
  obtain ⟨A, m, cap, ⟨hm, hJ⟩, hF⟩ := hX
  unfold FRW2 at hF
  obtain ⟨u19, hF⟩ := hF
  obtain ⟨u20, hF⟩ := hF
  obtain ⟨u21, hF⟩ := hF
  obtain ⟨u22, hF⟩ := hF
  obtain ⟨u23, hF⟩ := hF
  obtain ⟨u24, hF⟩ := hF
  obtain ⟨u25, hF⟩ := hF
  obtain ⟨u26, hF⟩ := hF
  obtain ⟨u27, hF⟩ := hF
  obtain ⟨u28, hF⟩ := hF
  obtain ⟨u29, hF⟩ := hF
  obtain ⟨u30, hF⟩ := hF
  obtain ⟨u31, hF⟩ := hF
  obtain ⟨u32, hF⟩ := hF
  subst hF
  have HA := hide hJ
  clear hJ
  have HB := hide (unhide HA).f2.tail
  clear HA
  go_wp2
  refine loopW5 (n0 := 10) (by omega) _ _ _ _ _ _ _ _ _ _ _ _ _ _ _ _ _ _ _ _ _ _ _ _ _ _ _ _ _ _ _ _ _ _ _ _ _ _ _ _ _ _ _ _ _ _ _ _ _ _ _ _ _ _ _ _ _ _ _ _ _ _ _ _ _ _ _ _ _ _ _ _ _ _ _ _ _ _ _ _ _ _ _ _ _ _ _ _ _ _ _ _ _ _ _ _ _ _ _ _ _ _ _ _ _ _ _ _ _ _ _ _ _ _ _ _ _ _ _ _ _ _ _ _ _ _ _ _ _ _ _ _ _ _ _ _ _ _ _ _ _ _ _ _ _ _ _ _ _ _ _ _ _ _ _ _ _ _ _ _ _ _ _ _ _ _ _ _ _ _ _ _ _ _ hm (unhide HB) _ _ _ _ _ _ _ _ _ _ _ _ _ _ _ _ _ _ _ ?_
  clear HB
  intro a' w'' hX
  obtain ⟨A, m, cap, ⟨hm, hJ⟩, hF⟩ := hX
  unfold FRW5 at hF
  obtain ⟨u33, hF⟩ := hF
  obtain ⟨u34, hF⟩ := hF
  obtain ⟨u35, hF⟩ := hF
  obtain ⟨u36, hF⟩ := hF
  obtain ⟨u37, hF⟩ := hF
  obtain ⟨u38, hF⟩ := hF
  obtain ⟨u39, hF⟩ := hF
  obtain ⟨u40, hF⟩ := hF
  obtain ⟨u41, hF⟩ := hF
  obtain ⟨u42, hF⟩ := hF
  obtain ⟨u43, hF⟩ := hF
  obtain ⟨u44, hF⟩ := hF
  obtain ⟨u45, hF⟩ := hF
  obtain ⟨u46, hF⟩ := hF
  obtain ⟨u47, hF⟩ := hF
  obtain ⟨u48, hF⟩ := hF
  obtain ⟨u49, hF⟩ := hF
  obtain ⟨u50, hF⟩ := hF
  obtain ⟨u51, hF⟩ := hF
  subst hF
  have HC := hide hJ
  clear hJ
  go_wp2
  refine loopW3 (n0 := 18) (by omega) _ _ _ _ _ _ _ _ _ _ _ _ _ _ _ _ _ _ _ _ _ _ _ _ _ _ _ _ _ _ _ _ _ _ _ _ _ _ _ _ _ _ _ _ _ _ _ _ _ _ _ _ _ _ _ _ _ _ _ _ _ _ _ _ _ _ _ _ _ _ _ _ _ _ _ _ _ _ _ _ _ _ _ _ _ _ _ _ _ _ _ _ _ _ _ _ _ _ _ _ _ _ _ _ _ _ _ _ _ _ _ _ _ _ _ _ _ _ _ _ _ _ _ _ _ _ _ _ _ _ _ _ _ _ _ _ _ _ _ _ _ _ _ _ _ _ _ _ _ _ _ _ _ _ _ _ _ _ _ _ _ _ _ _ _ _ _ _ _ _ _ _ _ _ _ _ _ _ hm (unhide HC) _ _ _ _ _ _ _ _ _ _ _ _ _ _ _ ?_
  clear HC
  intro a' w'' hX
  obtain ⟨A, m, cap, ⟨hm, hJ⟩, hF⟩ := hX
  unfold FRW3 at hF
  obtain ⟨u52, hF⟩ := hF
  obtain ⟨u53, hF⟩ := hF
  obtain ⟨u54, hF⟩ := hF
  obtain ⟨u55, hF⟩ := hF
  obtain ⟨u56, hF⟩ := hF
  obtain ⟨u57, hF⟩ := hF
  obtain ⟨u58, hF⟩ := hF
  obtain ⟨u59, hF⟩ := hF
  obtain ⟨u60, hF⟩ := hF
  obtain ⟨u61, hF⟩ := hF
  obtain ⟨u62, hF⟩ := hF
  obtain ⟨u63, hF⟩ := hF
  obtain ⟨u64, hF⟩ := hF
  obtain ⟨u65, hF⟩ := hF
  obtain ⟨u66, hF⟩ := hF
  subst hF
  have HD := hide hJ
  clear hJ
  have HD2 := hide ((unhide HD).newS ksE 3 8 1 rfl)
  go_wp2
  have HD3 := hide (unhide HD2).f2
  clear HD HD2
  refine loopW4 (n0 := 21) (by omega) _ _ _ _ _ _ _ _ _ _ _ _ _ _ _ _ _ _ _ _ _ _ _ _ _ _ _ _ _ _ _ _ _ _ _ _ _ _ _ _ _ _ _ _ _ _ _ _ _ _ _ _ _ _ _ _ _ _ _ _ _ _ _ _ _ _ _ _ _ _ _ _ _ _ _ _ _ _ _ _ _ _ _ _ _ _ _ _ _ _ _ _ _ _ _ _ _ _ _ _ _ _ _ _ _ _ _ _ _ _ _ _ _ _ _ _ _ _ _ _ _ _ _ _ _ _ _ _ _ _ _ _ _ _ _ _ _ _ _ _ _ _ _ _ _ _ _ _ _ _ _ _ _ _ _ _ _ hm (unhide HD3) _ _ _ _ _ _ _ _ _ _ _ _ _ _ _ _ _ _ _ _ _ _ _ _ _ _ _ _ _ _ _ _ _ _ _ ?_
  clear HD3
  intro a' w'' hX
  obtain ⟨A, m, cap, ⟨hm, hJ⟩, hF⟩ := hX
  unfold FRW4 at hF
  obtain ⟨u68, hF⟩ := hF
  obtain ⟨u69, hF⟩ := hF
  obtain ⟨u70, hF⟩ := hF
  obtain ⟨u71, hF⟩ := hF
  obtain ⟨u72, hF⟩ := hF
  obtain ⟨u73, hF⟩ := hF
  obtain ⟨u74, hF⟩ := hF
  obtain ⟨u75, hF⟩ := hF
  obtain ⟨u76, hF⟩ := hF
  obtain ⟨u77, hF⟩ := hF
  obtain ⟨u78, hF⟩ := hF
  obtain ⟨u79, hF⟩ := hF
  obtain ⟨u80, hF⟩ := hF
  obtain ⟨u81, hF⟩ := hF
  obtain ⟨u82, hF⟩ := hF
  obtain ⟨u83, hF⟩ := hF
  obtain ⟨u84, hF⟩ := hF
  obtain ⟨u85, hF⟩ := hF
  obtain ⟨u86, hF⟩ := hF
  obtain ⟨u87, hF⟩ := hF
  obtain ⟨u88, hF⟩ := hF
  obtain ⟨u89, hF⟩ := hF
  obtain ⟨u90, hF⟩ := hF
  obtain ⟨u91, hF⟩ := hF
  obtain ⟨u92, hF⟩ := hF
  obtain ⟨u93, hF⟩ := hF
  obtain ⟨u94, hF⟩ := hF
  obtain ⟨u95, hF⟩ := hF
  obtain ⟨u96, hF⟩ := hF
  obtain ⟨u97, hF⟩ := hF
  obtain ⟨u98, hF⟩ := hF
  obtain ⟨u99, hF⟩ := hF
  obtain ⟨u100, hF⟩ := hF
  obtain ⟨u101, hF⟩ := hF
  obtain ⟨u102, hF⟩ := hF
  subst hF
  have HE := hide hJ
  clear hJ
  have HE2 := hide (unhide HE).f2.tail
  clear HE
  go_wp2_with fail
  refine (op7_w 51 0 32 1073741875 14 ⟨#[100, 49, 50]⟩ _ (by decide) (by decide) (by decide) (by decide) (by decide) (by decide) rfl).mono ?_
  rintro r w11 ⟨rfl, g1⟩
  have HE3 := hide ((unhide HE2).grown g1)
  clear g1 HE2
  go_wp2_with fail
  refine (op7_w 51 5 32 1073762355 20 ⟨#[100, 49, 50]⟩ _ (by decide) (by decide) (by decide) (by decide) (by decide) (by decide) rfl).mono ?_
  rintro r w12 ⟨rfl, g1⟩
  have HE4 := hide ((unhide HE3).grown g1)
  clear g1 HE3
  go_wp2_with (at_builtin; refine wpList_append_sl (n := m) (m := 2) rfl _ _ 46 rfl 49 i1 _ 7 48 Try.underlying46 hi1 hz0 hz1 hz2 rfl rfl rfl ((unhide HE4).alloc _).slw (sl_blk (n := 2) (sz := 7) (xs := rowsC wF) (heap_new' w12 _) rfl) (rowsC_cells _) (by omega) (by omega) ?_; intro v' w13 hsl hgr hblk hsp; obtain ⟨A', cap', rfl, _⟩ := hsl.parts; have hA := hide (((unhide HE4).alloc _).appendw hsl hgr hblk); clear hsl hgr hblk hsp; refine unhide ?_)
  refine hide ?_
  have HF := hide (show Heap w0 _ (HP.slw (.slice A' (m + 2) cap') 7 (m + 2) (rowsC (wA ++ upto wB 6 ++ uptoL wC 4 ++ uptoL wD 3 ++ uptoL wE 8 ++ wF)) :: L) by rw [rowsC_app]; exact unhide hA)
  clear hA
  have HF1 := hide ((unhide HF).newS ks8 3 3 1 rfl)
  have HF2 := hide ((unhide HF1).newS ks9 22 3 1 rfl)
  have HF3 := hide ((unhide HF2).newS ks10 22 3 1 rfl)
  clear HF HF1 HF2
  go_wp2
  have h7 := (unhide HF3).rev4
  have e : ∀ (W : World) (X : Obj), (W.alloc X).heap.size = W.heap.size + 1 := fun W X => by simp
  simp only [e] at h7
  have HF4 := hide h7
  clear HF3 h7 e
  refine loopW7 (n0 := 47) (by omega) _ _ _ _ _ _ _ _ _ _ _ _ _ _ _ _ _ _ _ _ _ _ _ _ _ _ _ _ _ _ _ _ _ _ _ _ _ _ _ _ _ _ _ _ _ _ _ _ _ _ _ _ _ _ _ _ _ _ _ _ _ _ _ _ _ _ _ _ _ _ _ _ _ _ _ _ _ _ _ _ _ _ _ _ _ _ _ _ _ _ _ _ _ _ _ _ _ _ _ _ _ _ _ _ _ _ _ _ _ _ _ _ _ _ _ _ _ _ _ _ _ _ _ _ _ _ _ _ _ _ _ _ _ _ _ (show m + 2 ≤ 47 by omega) (unhide HF4) _ _ _ _ _ _ _ _ _ _ _ _ _ _ _ _ _ _ _ _ _ _ _ _ _ _ _ _ _ _ _ _ _ _ _ _ _ _ _ _ _ _ _ _ _ _ _ _ _ _ _ _ _ _ _ ?_
  clear HF4
  intro a' w'' hX
  obtain ⟨A, m, cap, ⟨hm, hJ⟩, hF⟩ := hX
  unfold FRW7 at hF
  obtain ⟨u111, hF⟩ := hF
  obtain ⟨u112, hF⟩ := hF
  obtain ⟨u113, hF⟩ := hF
  obtain ⟨u114, hF⟩ := hF
  obtain ⟨u115, hF⟩ := hF
  obtain ⟨u116, hF⟩ := hF
  obtain ⟨u117, hF⟩ := hF
  obtain ⟨u118, hF⟩ := hF
  obtain ⟨u119, hF⟩ := hF
  obtain ⟨u120, hF⟩ := hF
  obtain ⟨u121, hF⟩ := hF
  obtain ⟨u122, hF⟩ := hF
  obtain ⟨u123, hF⟩ := hF
  obtain ⟨u124, hF⟩ := hF
  obtain ⟨u125, hF⟩ := hF
  obtain ⟨u126, hF⟩ := hF
  obtain ⟨u127, hF⟩ := hF
  obtain ⟨u128, hF⟩ := hF
  obtain ⟨u129, hF⟩ := hF
  obtain ⟨u130, hF⟩ := hF
  obtain ⟨u131, hF⟩ := hF
  obtain ⟨u132, hF⟩ := hF
  obtain ⟨u133, hF⟩ := hF
  obtain ⟨u134, hF⟩ := hF
  obtain ⟨u135, hF⟩ := hF
  obtain ⟨u136, hF⟩ := hF
  obtain ⟨u137, hF⟩ := hF
  obtain ⟨u138, hF⟩ := hF
  obtain ⟨u139, hF⟩ := hF
  obtain ⟨u140, hF⟩ := hF
  obtain ⟨u141, hF⟩ := hF
  obtain ⟨u142, hF⟩ := hF
  obtain ⟨u143, hF⟩ := hF
  obtain ⟨u144, hF⟩ := hF
  obtain ⟨u145, hF⟩ := hF
  obtain ⟨u146, hF⟩ := hF
  obtain ⟨u147, hF⟩ := hF
  obtain ⟨u148, hF⟩ := hF
  obtain ⟨u149, hF⟩ := hF
  obtain ⟨u150, hF⟩ := hF
  obtain ⟨u151, hF⟩ := hF
  obtain ⟨u152, hF⟩ := hF
  obtain ⟨u153, hF⟩ := hF
  obtain ⟨u154, hF⟩ := hF
  obtain ⟨u155, hF⟩ := hF
  obtain ⟨u156, hF⟩ := hF
  obtain ⟨u157, hF⟩ := hF
  obtain ⟨u158, hF⟩ := hF
  obtain ⟨u159, hF⟩ := hF
  obtain ⟨u160, hF⟩ := hF
  obtain ⟨u161, hF⟩ := hF
  obtain ⟨u162, hF⟩ := hF
  obtain ⟨u163, hF⟩ := hF
  obtain ⟨u164, hF⟩ := hF
  obtain ⟨u165, hF⟩ := hF
  subst hF
  have HG := hide hJ
  clear hJ
  have HG1 := hide (unhide HG).f2.tail.f2.tail.f2.tail
  clear HG
  go_wp2_with fail
  refine (op3_w 27 0 27 13 ⟨#[100, 49, 73, 61]⟩ _ (by decide) (by decide) (by decide) (by decide) rfl).mono ?_
  rintro r w21 ⟨rfl, g1⟩
  have HG2 := hide ((unhide HG1).grown g1)
  clear g1 HG1
  go_wp2_with fail
  refine (worded_w 28799 27 13 0 ⟨#[100, 49, 73, 61]⟩ false false true false _).mono ?_
  rintro r w22 ⟨rfl, g1⟩
  have HG3 := hide ((unhide HG2).grown g1)
  clear g1 HG2
  go_wp2_with fail
  refine (op7_w 59 0 0 59 13 ⟨#[100, 49, 50]⟩ _ (by decide) (by decide) (by decide) (by decide) (by decide) (by decide) rfl).mono ?_
  rintro r w23 ⟨rfl, g1⟩
  have HG4 := hide ((unhide HG3).grown g1)
  clear g1 HG3
  go_wp2_with fail
  refine (worded_w 4261441663 59 13 0 ⟨#[100, 49, 50]⟩ false false true false _).mono ?_
  rintro r w24 ⟨rfl, g1⟩
  have HG5 := hide ((unhide HG4).grown g1)
  clear g1 HG4
  go_wp2_with fail
  refine (op7_w 59 0 32 1073741883 14 ⟨#[100, 49, 50]⟩ _ (by decide) (by decide) (by decide) (by decide) (by decide) (by decide) rfl).mono ?_
  rintro r w25 ⟨rfl, g1⟩
  have HG6 := hide ((unhide HG5).grown g1)
  clear g1 HG5
  go_wp2_with fail
  refine (worded_w 4261441663 1073741883 14 0 ⟨#[100, 49, 50]⟩ false false true false _).mono ?_
  rintro r w26 ⟨rfl, g1⟩
  have HG7 := hide ((unhide HG6).grown g1)
  clear g1 HG6
  go_wp2_with (at_builtin; refine wpList_append_sl (n := m) (m := 3) rfl _ _ 46 rfl 49 i1 _ 7 48 Try.underlying46 hi1 hz0 hz1 hz2 rfl rfl rfl ((unhide HG7).alloc _).slw (sl_blk (n := 3) (sz := 7) (xs := rowsC wG) (heap_new' w26 _) rfl) (rowsC_cells _) (by omega) (by omega) ?_; intro v' w27 hsl hgr hblk hsp; obtain ⟨A', cap', rfl, _⟩ := hsl.parts; have hA := hide (((unhide HG7).alloc _).appendw hsl hgr hblk); clear hsl hgr hblk hsp; refine unhide ?_)
  refine hide ?_
  clear HG7
  have HI1 := hide (show Heap w0 _ (HP.slw (.slice A' (m + 3) cap') 7 (m + 3) (rowsC (wA ++ upto wB 6 ++ uptoL wC 4 ++ uptoL wD 3 ++ uptoL wE 8 ++ wF ++ uptoL wH 3 ++ wG)) :: L) by rw [rowsC_app]; exact unhide hA)
  clear hA
  go_wp2_with fail
  refine (op7_w 59 0 1 33554491 23 ⟨#[100, 49, 50]⟩ _ (by decide) (by decide) (by decide) (by decide) (by decide) (by decide) rfl).mono ?_
  rintro r w28 ⟨rfl, g1⟩
  have HI2 := hide ((unhide HI1).grown g1)
  clear g1 HI1
  go_wp2_with fail
  refine (worded_w 4261441663 33554491 23 0 ⟨#[100, 49, 50]⟩ false false true false _).mono ?_
  rintro r w29 ⟨rfl, g1⟩
  have HI3 := hide ((unhide HI2).grown g1)
  clear g1 HI2
  go_wp2_with (at_builtin; refine wpList_append_sl (n := m + 3) (m := 1) rfl _ _ 46 rfl 49 i1 _ 7 48 Try.underlying46 hi1 hz0 hz1 hz2 rfl rfl rfl ((unhide HI3).alloc _).slw (sl_blk (n := 1) (sz := 7) (xs := rowsC wI) (heap_new' w29 _) rfl) (rowsC_cells _) (by omega) (by omega) ?_; intro v' w30 hsl hgr hblk hsp; obtain ⟨A2, cap2, rfl, _⟩ := hsl.parts; have hA := hide (((unhide HI3).alloc _).appendw hsl hgr hblk); clear hsl hgr hblk hsp; refine unhide ?_)
  refine hide ?_
  clear HI3
  have HJ1 := hide (show Heap w0 _ (HP.slw (.slice A2 (m + 3 + 1) cap2) 7 (m + 3 + 1) (rowsC (wA ++ upto wB 6 ++ uptoL wC 4 ++ uptoL wD 3 ++ uptoL wE 8 ++ wF ++ uptoL wH 3 ++ wG ++ wI)) :: L) by rw [rowsC_app _ wI]; exact unhide hA)
  clear hA
  go_wp2
  refine loopW6 (n0 := 60) (by omega) _ _ _ _ _ _ _ _ _ _ _ _ _ _ _ _ _ _ _ _ _ _ _ _ _ _ _ _ _ _ _ _ _ _ _ _ _ _ _ _ _ _ _ _ _ _ _ _ _ _ _ _ _ _ _ _ _ _ _ _ _ _ _ _ _ _ _ _ _ _ _ _ _ _ _ _ _ _ _ _ _ _ _ _ _ _ _ _ _ _ _ _ _ _ _ _ _ _ _ _ _ _ _ _ _ _ _ _ _ _ _ _ _ _ _ _ _ _ _ _ _ _ _ _ _ _ _ _ _ _ _ _ _ _ _ _ _ _ _ _ _ _ _ _ _ _ _ _ _ _ _ _ _ _ _ _ _ _ _ _ _ _ _ _ _ _ _ _ _ _ _ _ _ _ _ _ _ _ _ _ (show m + 3 + 1 ≤ 60 by omega) (unhide HJ1) _ _ _ _ _ _ _ _ _ _ _ _ _ ?_
  clear HJ1
  intro a' w'' hX
  obtain ⟨A, m, cap, ⟨hm, hJ⟩, hF⟩ := hX
  unfold FRW6 at hF
  obtain ⟨u180, hF⟩ := hF
  obtain ⟨u181, hF⟩ := hF
  obtain ⟨u182, hF⟩ := hF
  obtain ⟨u183, hF⟩ := hF
  obtain ⟨u184, hF⟩ := hF
  obtain ⟨u185, hF⟩ := hF
  obtain ⟨u186, hF⟩ := hF
  obtain ⟨u187, hF⟩ := hF
  obtain ⟨u188, hF⟩ := hF
  obtain ⟨u189, hF⟩ := hF
  obtain ⟨u190, hF⟩ := hF
  obtain ⟨u191, hF⟩ := hF
  obtain ⟨u192, hF⟩ := hF
  subst hF
  have HK := hide hJ
  clear hJ
  go_wp2
  go_ret
  exact ⟨A, m, cap, rfl, by omega, unhide HK⟩
end
end Go.Proofs.Ytopbdiekfhikmaa
