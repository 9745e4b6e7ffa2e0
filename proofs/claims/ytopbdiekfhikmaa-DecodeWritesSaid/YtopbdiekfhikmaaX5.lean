/- Layer 3, the document's side: float(4): the walk. / Layer 3, the document's side: float(8): the walk. -/
import Derived.Test.YtopbdiekfhikmaaY5
import Derived.Test.YtopbdiekfhikmaaX1
import Derived.Test.YtopbdiekfhikmaaX3
namespace Go.Proofs.Ytopbdiekfhikmaa
open Go.RowKit
theorem sized_w (m b kd z : Int) (F : ByteArray) (o u : Bool) (q : Int) (w : World) : Calls Try.prog 60 #[.agg #[.int .u32 m, .int .u32 b, .int .i64 kd, .string F, .int .i64 z, .bool o, .bool u], .int .i64 q] w fun r w' => r = .returned (.agg #[.int .u32 m, .int .u32 b, .int .i64 kd, .string F, .int .i64 q, .bool o, .bool u]) ∧ GN w w' := sized_any ⟨m, b, kd, F, z, o, u⟩ q w
theorem func0_4 (w : World) : Calls Try.prog 63 #[.int .u32 0] w fun r w' => r = .returned (.int .u32 83) ∧ GN w w' := by
  go_enter Try.func63, Try.ntmps63
  go_wp2
  go_ret
  exact ⟨rfl, by first | exact GN.refl _ | exact (GN.refl _).drew | exact (GN.refl _).drewN _⟩
def fH4 : List RowS := [⟨28799, 8199, 53, ⟨#[100, 49, 73]⟩, 4, false, false⟩, ⟨28799, 8231, 54, ⟨#[49, 50, 83]⟩, 4, false, false⟩]
def fI4 : List RowS := [⟨4293918847, 1476395091, 59, ⟨#[100, 49, 114]⟩, 4, false, false⟩]
def fK4 : List RowS := [⟨4293918847, 1074790483, 75, ⟨#[100, 49, 114]⟩, 4, false, false⟩]
def fM4 : List RowS := [⟨4293947519, 3758096467, 76, ⟨#[100, 49]⟩, 4, false, false⟩, ⟨4293947519, 3758100563, 72, ⟨#[100, 49]⟩, 4, false, false⟩, ⟨4293947519, 4026531923, 77, ⟨#[100, 49]⟩, 4, false, false⟩]
def floatL4 : List RowS := fH4 ++ uptoL (flA 0) 4 ++ uptoL (flB 0) 4 ++ fI4 ++ uptoL (flC 0) 3 ++ fK4 ++ uptoL (flD 0) 4 ++ fM4
section
variable {w0 w : World} {L : List HP}
set_option maxRecDepth 1000000 in
set_option maxHeartbeats 8000000 in
theorem rfloat_4 (h : Heap w0 w L) : Calls Try.prog 43 #[.int .i64 4] w fun r w' => ∃ A m cap, r = .returned (.slice A m cap) ∧ m ≤ 100 ∧ Heap w0 w' (HP.slw (.slice A m cap) 7 m (rowsC floatL4) :: L) := by
  have H := hide h
  clear h
  obtain ⟨i1, hi1, hz0, hz1, hz2⟩ := info_parts info49
  go_enter Try.func43, Try.ntmps43
  go_wp2_with fail
  refine (op3_w 7 2 8199 53 ⟨#[100, 49, 73]⟩ _ (by decide) (by decide) (by decide) (by decide) rfl).mono ?_
  rintro r w1 ⟨rfl, g1⟩
  have H1 := hide ((unhide H).grown g1)
  clear g1 H
  go_wp2_with fail
  refine (sized_w 28799 8199 53 0 ⟨#[100, 49, 73]⟩ false false 4 _).mono ?_
  rintro r w2 ⟨rfl, g1⟩
  have H2 := hide ((unhide H1).grown g1)
  clear g1 H1
  go_wp2_with fail
  refine (op3_w 39 2 8231 54 ⟨#[49, 50, 83]⟩ _ (by decide) (by decide) (by decide) (by decide) rfl).mono ?_
  rintro r w3 ⟨rfl, g1⟩
  have H3 := hide ((unhide H2).grown g1)
  clear g1 H2
  go_wp2_with fail
  refine (sized_w 28799 8231 54 0 ⟨#[49, 50, 83]⟩ false false 4 _).mono ?_
  rintro r w4 ⟨rfl, g1⟩
  have H4 := hide ((unhide H3).grown g1)
  clear g1 H3
  have H5 := hide ((unhide H4).newS (rowsC fH4) 49 2 7 rfl)
  have H6 := hide ((unhide H5).newS ks5 3 4 1 rfl)
  clear H4 H5
  go_wp2
  have h7 := (unhide H6).f2
  have e : ∀ (W : World) (X : Obj), (W.alloc X).heap.size = W.heap.size + 1 := fun W X => by simp
  simp only [e] at h7
  have H7 := hide h7
  clear H6 h7 e
  refine loopX1 (n0 := 2) (d := 0) (sz := 4) (fm := 0) (by omega) (by decide) _ _ _ _ _ _ _ _ _ _ _ _ _ _ _ _ _ _ _ _ _ _ _ _ _ _ _ _ _ _ _ _ _ _ _ _ _ _ _ _ _ _ _ _ _ _ _ _ _ _ _ _ _ _ _ _ _ _ _ _ _ _ _ _ _ _ _ _ _ _ _ _ _ _ _ _ _ _ _ _ _ _ _ _ _ _ _ _ _ _ _ _ _ _ _ _ _ _ _ _ _ _ _ _ _ _ _ _ _ _ _ _ _ _ _ _ _ _ _ _ _ _ _ _ _ _ _ _ _ _ _ _ _ _ _ _ _ _ _ _ _ _ _ _ _ _ _ _ _ _ _ _ _ _ _ _ _ _ _ (Nat.le_refl 2) (unhide H7) _ _ _ _ _ _ _ _ _ _ _ _ _ _ _ _ _ _ _ ?_
  clear H7
  intro a' w'' hX
  obtain ⟨A, m, cap, ⟨hm, hJ⟩, hF⟩ := hX
  unfold FRX1 at hF
  obtain ⟨u32, hF⟩ := hF
  obtain ⟨u33, hF⟩ := hF
  obtain ⟨u34, hF⟩ := hF
  obtain ⟨u35, hF⟩ := hF
  obtain ⟨u36, hF⟩ := hF
  obtain ⟨u37, hF⟩ := hF
  obtain ⟨u38, hF⟩ := hF
  obtain ⟨u39, hF⟩ := hF
  obtain ⟨u40, hF⟩ := hF
  obtain ⟨u41, hF⟩ := hF
  obtain ⟨u42, hF⟩ := hF
  obtain ⟨u43, hF⟩ := hF
  obtain ⟨u44, hF⟩ := hF
  obtain ⟨u45, hF⟩ := hF
  obtain ⟨u46, hF⟩ := hF
  obtain ⟨u47, hF⟩ := hF
  obtain ⟨u48, hF⟩ := hF
  obtain ⟨u49, hF⟩ := hF
  obtain ⟨u50, hF⟩ := hF
  subst hF
  have H8 := hide hJ
  clear hJ
  have H9 := hide (unhide H8).f2.tail
  clear H8
  go_wp2_with fail
  refine (func0_4 _).mono ?_
  rintro r w9 ⟨rfl, g1⟩
  have HA := hide ((unhide H9).grown g1)
  clear g1 H9
  go_wp2
  refine loopX2 (n0 := 6) (d := 0) (sz := 4) (fv := 83) (by omega) (by decide) _ _ _ _ _ _ _ _ _ _ _ _ _ _ _ _ _ _ _ _ _ _ _ _ _ _ _ _ _ _ _ _ _ _ _ _ _ _ _ _ _ _ _ _ _ _ _ _ _ _ _ _ _ _ _ _ _ _ _ _ _ _ _ _ _ _ _ _ _ _ _ _ _ _ _ _ _ _ _ _ _ _ _ _ _ _ _ _ _ _ _ _ _ _ _ _ _ _ _ _ _ _ _ _ _ _ _ _ _ _ _ _ _ _ _ _ _ _ _ _ _ _ _ _ _ _ _ _ _ _ _ _ _ _ _ _ _ _ _ _ _ _ _ _ _ _ _ _ _ _ _ _ _ _ _ _ _ _ _ _ _ _ _ (show m ≤ 6 by omega) (unhide HA) _ _ _ _ _ _ _ _ _ _ _ _ _ _ _ _ ?_
  clear HA
  intro a' w'' hX
  obtain ⟨A, m, cap, ⟨hm, hJ⟩, hF⟩ := hX
  unfold FRX2 at hF
  obtain ⟨u53, hF⟩ := hF
  obtain ⟨u54, hF⟩ := hF
  obtain ⟨u55, hF⟩ := hF
  obtain ⟨u56, hF⟩ := hF
  obtain ⟨u57, hF⟩ := hF
  obtain ⟨u58, hF⟩ := hF
  obtain ⟨u59, hF⟩ := hF
  obtain ⟨u60, hF⟩ := hF
  obtain ⟨u61, hF⟩ := hF
  obtain ⟨u62, hF⟩ := hF
  obtain ⟨u63, hF⟩ := hF
  obtain ⟨u64, hF⟩ := hF
  obtain ⟨u65, hF⟩ := hF
  obtain ⟨u66, hF⟩ := hF
  obtain ⟨u67, hF⟩ := hF
  obtain ⟨u68, hF⟩ := hF
  subst hF
  have HB := hide hJ
  clear hJ
  go_wp2_with (at_builtin; refine wpList_append_sl (n := m) (m := 1) rfl _ _ 46 rfl 49 i1 _ 7 48 Try.underlying46 hi1 hz0 hz1 hz2 rfl rfl rfl ((unhide HB).alloc _).slw (sl_blk (n := 1) (sz := 7) (xs := rowsC (fI4)) (heap_new' w'' _) rfl) (rowsC_cells _) (by omega) (by omega) ?_; intro v' w10 hsl hgr hblk hsp; obtain ⟨A', cap', rfl, _⟩ := hsl.parts; have hA := hide (((unhide HB).alloc _).appendw hsl hgr hblk); clear hsl hgr hblk hsp; refine unhide ?_)
  refine hide ?_
  have HC := hide (show Heap w0 _ (HP.slw (.slice A' (m + 1) cap') 7 (m + 1) (rowsC (fH4 ++ uptoL (flA 0) 4 ++ uptoL (flB 0) 4 ++ fI4)) :: L) by rw [rowsC_app _ fI4]; exact unhide hA)
  clear hA HB
  go_wp2
  refine loopX3 (n0 := 11) (d := 0) (sz := 4) (fv := 83) (by omega) (by decide) _ _ _ _ _ _ _ _ _ _ _ _ _ _ _ _ _ _ _ _ _ _ _ _ _ _ _ _ _ _ _ _ _ _ _ _ _ _ _ _ _ _ _ _ _ _ _ _ _ _ _ _ _ _ _ _ _ _ _ _ _ _ _ _ _ _ _ _ _ _ _ _ _ _ _ _ _ _ _ _ _ _ _ _ _ _ _ _ _ _ _ _ _ _ _ _ _ _ _ _ _ _ _ _ _ _ _ _ _ _ _ _ _ _ _ _ _ _ _ _ _ _ _ _ _ _ _ _ _ _ _ _ _ _ _ _ (show m + 1 ≤ 11 by omega) (unhide HC) _ _ _ _ _ _ _ _ _ _ _ _ _ _ _ _ _ _ _ _ _ _ _ _ _ _ _ _ _ _ _ _ _ _ _ _ _ _ _ _ _ _ _ ?_
  clear HC
  intro a' w'' hX
  obtain ⟨A, m, cap, ⟨hm, hJ⟩, hF⟩ := hX
  unfold FRX3 at hF
  obtain ⟨u76, hF⟩ := hF
  obtain ⟨u77, hF⟩ := hF
  obtain ⟨u78, hF⟩ := hF
  obtain ⟨u79, hF⟩ := hF
  obtain ⟨u80, hF⟩ := hF
  obtain ⟨u81, hF⟩ := hF
  obtain ⟨u82, hF⟩ := hF
  obtain ⟨u83, hF⟩ := hF
  obtain ⟨u84, hF⟩ := hF
  obtain ⟨u85, hF⟩ := hF
  obtain ⟨u86, hF⟩ := hF
  obtain ⟨u87, hF⟩ := hF
  obtain ⟨u88, hF⟩ := hF
  obtain ⟨u89, hF⟩ := hF
  obtain ⟨u90, hF⟩ := hF
  obtain ⟨u91, hF⟩ := hF
  obtain ⟨u92, hF⟩ := hF
  obtain ⟨u93, hF⟩ := hF
  obtain ⟨u94, hF⟩ := hF
  obtain ⟨u95, hF⟩ := hF
  obtain ⟨u96, hF⟩ := hF
  obtain ⟨u97, hF⟩ := hF
  obtain ⟨u98, hF⟩ := hF
  obtain ⟨u99, hF⟩ := hF
  obtain ⟨u100, hF⟩ := hF
  obtain ⟨u101, hF⟩ := hF
  obtain ⟨u102, hF⟩ := hF
  obtain ⟨u103, hF⟩ := hF
  obtain ⟨u104, hF⟩ := hF
  obtain ⟨u105, hF⟩ := hF
  obtain ⟨u106, hF⟩ := hF
  obtain ⟨u107, hF⟩ := hF
  obtain ⟨u108, hF⟩ := hF
  obtain ⟨u109, hF⟩ := hF
  obtain ⟨u110, hF⟩ := hF
  obtain ⟨u111, hF⟩ := hF
  obtain ⟨u112, hF⟩ := hF
  obtain ⟨u113, hF⟩ := hF
  obtain ⟨u114, hF⟩ := hF
  obtain ⟨u115, hF⟩ := hF
  obtain ⟨u116, hF⟩ := hF
  obtain ⟨u117, hF⟩ := hF
  obtain ⟨u118, hF⟩ := hF
  subst hF
  have HD := hide hJ
  clear hJ
  go_wp2_with (at_builtin; refine wpList_append_sl (n := m) (m := 1) rfl _ _ 46 rfl 49 i1 _ 7 48 Try.underlying46 hi1 hz0 hz1 hz2 rfl rfl rfl ((unhide HD).alloc _).slw (sl_blk (n := 1) (sz := 7) (xs := rowsC (fK4)) (heap_new' w'' _) rfl) (rowsC_cells _) (by omega) (by omega) ?_; intro v' w11 hsl hgr hblk hsp; obtain ⟨A', cap', rfl, _⟩ := hsl.parts; have hA := hide (((unhide HD).alloc _).appendw hsl hgr hblk); clear hsl hgr hblk hsp; refine unhide ?_)
  refine hide ?_
  have HE := hide (show Heap w0 _ (HP.slw (.slice A' (m + 1) cap') 7 (m + 1) (rowsC (fH4 ++ uptoL (flA 0) 4 ++ uptoL (flB 0) 4 ++ fI4 ++ uptoL (flC 0) 3 ++ fK4)) :: L) by rw [rowsC_app _ fK4]; exact unhide hA)
  clear hA HD
  go_wp2
  refine loopX4 (n0 := 21) (d := 0) (sz := 4) (fv := 83) (by omega) (by decide) _ _ _ _ _ _ _ _ _ _ _ _ _ _ _ _ _ _ _ _ _ _ _ _ _ _ _ _ _ _ _ _ _ _ _ _ _ _ _ _ _ _ _ _ _ _ _ _ _ _ _ _ _ _ _ _ _ _ _ _ _ _ _ _ _ _ _ _ _ _ _ _ _ _ _ _ _ _ _ _ _ _ _ _ _ _ _ _ _ _ _ _ _ _ _ _ _ _ _ _ _ _ _ _ _ _ _ _ _ _ _ _ _ _ _ _ _ _ _ _ _ _ _ _ _ _ _ _ _ _ _ _ _ _ _ _ _ _ _ _ _ _ _ _ _ (show m + 1 ≤ 21 by omega) (unhide HE) _ _ _ _ _ _ _ _ _ _ _ _ _ _ _ _ _ _ _ _ _ _ _ _ _ _ _ _ _ _ _ _ _ _ ?_
  clear HE
  intro a' w'' hX
  obtain ⟨A, m, cap, ⟨hm, hJ⟩, hF⟩ := hX
  unfold FRX4 at hF
  obtain ⟨u132, hF⟩ := hF
  obtain ⟨u133, hF⟩ := hF
  obtain ⟨u134, hF⟩ := hF
  obtain ⟨u135, hF⟩ := hF
  obtain ⟨u136, hF⟩ := hF
  obtain ⟨u137, hF⟩ := hF
  obtain ⟨u138, hF⟩ := hF
  obtain ⟨u139, hF⟩ := hF
  obtain ⟨u140, hF⟩ := hF
  obtain ⟨u141, hF⟩ := hF
  obtain ⟨u142, hF⟩ := hF
  obtain ⟨u143, hF⟩ := hF
  obtain ⟨u144, hF⟩ := hF
  obtain ⟨u145, hF⟩ := hF
  obtain ⟨u146, hF⟩ := hF
  obtain ⟨u147, hF⟩ := hF
  obtain ⟨u148, hF⟩ := hF
  obtain ⟨u149, hF⟩ := hF
  obtain ⟨u150, hF⟩ := hF
  obtain ⟨u151, hF⟩ := hF
  obtain ⟨u152, hF⟩ := hF
  obtain ⟨u153, hF⟩ := hF
  obtain ⟨u154, hF⟩ := hF
  obtain ⟨u155, hF⟩ := hF
  obtain ⟨u156, hF⟩ := hF
  obtain ⟨u157, hF⟩ := hF
  obtain ⟨u158, hF⟩ := hF
  obtain ⟨u159, hF⟩ := hF
  obtain ⟨u160, hF⟩ := hF
  obtain ⟨u161, hF⟩ := hF
  obtain ⟨u162, hF⟩ := hF
  obtain ⟨u163, hF⟩ := hF
  obtain ⟨u164, hF⟩ := hF
  obtain ⟨u165, hF⟩ := hF
  subst hF
  have HF := hide hJ
  clear hJ
  go_wp2_with (at_builtin; refine wpList_append_sl (n := m) (m := 3) rfl _ _ 46 rfl 49 i1 _ 7 48 Try.underlying46 hi1 hz0 hz1 hz2 rfl rfl rfl ((unhide HF).alloc _).slw (sl_blk (n := 3) (sz := 7) (xs := rowsC (fM4)) (heap_new' w'' _) rfl) (rowsC_cells _) (by omega) (by omega) ?_; intro v' w12 hsl hgr hblk hsp; obtain ⟨A', cap', rfl, _⟩ := hsl.parts; have hA := hide (((unhide HF).alloc _).appendw hsl hgr hblk); clear hsl hgr hblk hsp; refine unhide ?_)
  refine hide ?_
  have HG := hide (show Heap w0 _ (HP.slw (.slice A' (m + 3) cap') 7 (m + 3) (rowsC floatL4) :: L) by rw [show floatL4 = (fH4 ++ uptoL (flA 0) 4 ++ uptoL (flB 0) 4 ++ fI4 ++ uptoL (flC 0) 3 ++ fK4 ++ uptoL (flD 0) 4) ++ fM4 from rfl, rowsC_app _ fM4]; exact unhide hA)
  clear hA HF
  go_wp2
  go_ret
  exact ⟨A', m + 3, cap', rfl, by omega, unhide HG⟩
end
end Go.Proofs.Ytopbdiekfhikmaa
namespace Go.Proofs.Ytopbdiekfhikmaa
open Go.RowKit
theorem func0_8 (w : World) : Calls Try.prog 63 #[.int .u32 33554432] w fun r w' => r = .returned (.int .u32 33554515) ∧ GN w w' := by
  go_enter Try.func63, Try.ntmps63
  go_wp2
  go_ret
  exact ⟨rfl, by first | exact GN.refl _ | exact (GN.refl _).drew | exact (GN.refl _).drewN _⟩
def fH8 : List RowS := [⟨28799, 12295, 53, ⟨#[100, 49, 73]⟩, 8, false, false⟩, ⟨28799, 12327, 54, ⟨#[49, 50, 83]⟩, 8, false, false⟩]
def fI8 : List RowS := [⟨4293918847, 1509949523, 59, ⟨#[100, 49, 114]⟩, 8, false, false⟩]
def fK8 : List RowS := [⟨4293918847, 1107296339, 75, ⟨#[100, 49, 114]⟩, 8, false, false⟩]
def fM8 : List RowS := [⟨4293947519, 3791650899, 76, ⟨#[100, 49]⟩, 8, false, false⟩, ⟨4293947519, 3791654995, 72, ⟨#[100, 49]⟩, 8, false, false⟩, ⟨4293947519, 4060086355, 77, ⟨#[100, 49]⟩, 8, false, false⟩]
def floatL8 : List RowS := fH8 ++ uptoL (flA 1) 4 ++ uptoL (flB 1) 4 ++ fI8 ++ uptoL (flC 1) 3 ++ fK8 ++ uptoL (flD 1) 4 ++ fM8
section
variable {w0 w : World} {L : List HP}
set_option maxRecDepth 1000000 in
set_option maxHeartbeats 8000000 in
theorem rfloat_8 (h : Heap w0 w L) : Calls Try.prog 43 #[.int .i64 8] w fun r w' => ∃ A m cap, r = .returned (.slice A m cap) ∧ m ≤ 100 ∧ Heap w0 w' (HP.slw (.slice A m cap) 7 m (rowsC floatL8) :: L) := by
  have H := hide h
  clear h
  obtain ⟨i1, hi1, hz0, hz1, hz2⟩ := info_parts info49
  go_enter Try.func43, Try.ntmps43
  go_wp2_with fail
  refine (op3_w 7 3 12295 53 ⟨#[100, 49, 73]⟩ _ (by decide) (by decide) (by decide) (by decide) rfl).mono ?_
  rintro r w1 ⟨rfl, g1⟩
  have H1 := hide ((unhide H).grown g1)
  clear g1 H
  go_wp2_with fail
  refine (sized_w 28799 12295 53 0 ⟨#[100, 49, 73]⟩ false false 8 _).mono ?_
  rintro r w2 ⟨rfl, g1⟩
  have H2 := hide ((unhide H1).grown g1)
  clear g1 H1
  go_wp2_with fail
  refine (op3_w 39 3 12327 54 ⟨#[49, 50, 83]⟩ _ (by decide) (by decide) (by decide) (by decide) rfl).mono ?_
  rintro r w3 ⟨rfl, g1⟩
  have H3 := hide ((unhide H2).grown g1)
  clear g1 H2
  go_wp2_with fail
  refine (sized_w 28799 12327 54 0 ⟨#[49, 50, 83]⟩ false false 8 _).mono ?_
  rintro r w4 ⟨rfl, g1⟩
  have H4 := hide ((unhide H3).grown g1)
  clear g1 H3
  have H5 := hide ((unhide H4).newS (rowsC fH8) 49 2 7 rfl)
  have H6 := hide ((unhide H5).newS ks5 3 4 1 rfl)
  clear H4 H5
  go_wp2
  have h7 := (unhide H6).f2
  have e : ∀ (W : World) (X : Obj), (W.alloc X).heap.size = W.heap.size + 1 := fun W X => by simp
  simp only [e] at h7
  have H7 := hide h7
  clear H6 h7 e
  refine loopX1 (n0 := 2) (d := 1) (sz := 8) (fm := 33554432) (by omega) (by decide) _ _ _ _ _ _ _ _ _ _ _ _ _ _ _ _ _ _ _ _ _ _ _ _ _ _ _ _ _ _ _ _ _ _ _ _ _ _ _ _ _ _ _ _ _ _ _ _ _ _ _ _ _ _ _ _ _ _ _ _ _ _ _ _ _ _ _ _ _ _ _ _ _ _ _ _ _ _ _ _ _ _ _ _ _ _ _ _ _ _ _ _ _ _ _ _ _ _ _ _ _ _ _ _ _ _ _ _ _ _ _ _ _ _ _ _ _ _ _ _ _ _ _ _ _ _ _ _ _ _ _ _ _ _ _ _ _ _ _ _ _ _ _ _ _ _ _ _ _ _ _ _ _ _ _ _ _ _ _ (Nat.le_refl 2) (unhide H7) _ _ _ _ _ _ _ _ _ _ _ _ _ _ _ _ _ _ _ ?_
  clear H7
  intro a' w'' hX
  obtain ⟨A, m, cap, ⟨hm, hJ⟩, hF⟩ := hX
  unfold FRX1 at hF
  obtain ⟨u32, hF⟩ := hF
  obtain ⟨u33, hF⟩ := hF
  obtain ⟨u34, hF⟩ := hF
  obtain ⟨u35, hF⟩ := hF
  obtain ⟨u36, hF⟩ := hF
  obtain ⟨u37, hF⟩ := hF
  obtain ⟨u38, hF⟩ := hF
  obtain ⟨u39, hF⟩ := hF
  obtain ⟨u40, hF⟩ := hF
  obtain ⟨u41, hF⟩ := hF
  obtain ⟨u42, hF⟩ := hF
  obtain ⟨u43, hF⟩ := hF
  obtain ⟨u44, hF⟩ := hF
  obtain ⟨u45, hF⟩ := hF
  obtain ⟨u46, hF⟩ := hF
  obtain ⟨u47, hF⟩ := hF
  obtain ⟨u48, hF⟩ := hF
  obtain ⟨u49, hF⟩ := hF
  obtain ⟨u50, hF⟩ := hF
  subst hF
  have H8 := hide hJ
  clear hJ
  have H9 := hide (unhide H8).f2.tail
  clear H8
  go_wp2_with fail
  refine (func0_8 _).mono ?_
  rintro r w9 ⟨rfl, g1⟩
  have HA := hide ((unhide H9).grown g1)
  clear g1 H9
  go_wp2
  refine loopX2 (n0 := 6) (d := 1) (sz := 8) (fv := 33554515) (by omega) (by decide) _ _ _ _ _ _ _ _ _ _ _ _ _ _ _ _ _ _ _ _ _ _ _ _ _ _ _ _ _ _ _ _ _ _ _ _ _ _ _ _ _ _ _ _ _ _ _ _ _ _ _ _ _ _ _ _ _ _ _ _ _ _ _ _ _ _ _ _ _ _ _ _ _ _ _ _ _ _ _ _ _ _ _ _ _ _ _ _ _ _ _ _ _ _ _ _ _ _ _ _ _ _ _ _ _ _ _ _ _ _ _ _ _ _ _ _ _ _ _ _ _ _ _ _ _ _ _ _ _ _ _ _ _ _ _ _ _ _ _ _ _ _ _ _ _ _ _ _ _ _ _ _ _ _ _ _ _ _ _ _ _ _ _ (show m ≤ 6 by omega) (unhide HA) _ _ _ _ _ _ _ _ _ _ _ _ _ _ _ _ ?_
  clear HA
  intro a' w'' hX
  obtain ⟨A, m, cap, ⟨hm, hJ⟩, hF⟩ := hX
  unfold FRX2 at hF
  obtain ⟨u53, hF⟩ := hF
  obtain ⟨u54, hF⟩ := hF
  obtain ⟨u55, hF⟩ := hF
  obtain ⟨u56, hF⟩ := hF
  obtain ⟨u57, hF⟩ := hF
  obtain ⟨u58, hF⟩ := hF
  obtain ⟨u59, hF⟩ := hF
  obtain ⟨u60, hF⟩ := hF
  obtain ⟨u61, hF⟩ := hF
  obtain ⟨u62, hF⟩ := hF
  obtain ⟨u63, hF⟩ := hF
  obtain ⟨u64, hF⟩ := hF
  obtain ⟨u65, hF⟩ := hF
  obtain ⟨u66, hF⟩ := hF
  obtain ⟨u67, hF⟩ := hF
  obtain ⟨u68, hF⟩ := hF
  subst hF
  have HB := hide hJ
  clear hJ
  go_wp2_with (at_builtin; refine wpList_append_sl (n := m) (m := 1) rfl _ _ 46 rfl 49 i1 _ 7 48 Try.underlying46 hi1 hz0 hz1 hz2 rfl rfl rfl ((unhide HB).alloc _).slw (sl_blk (n := 1) (sz := 7) (xs := rowsC (fI8)) (heap_new' w'' _) rfl) (rowsC_cells _) (by omega) (by omega) ?_; intro v' w10 hsl hgr hblk hsp; obtain ⟨A', cap', rfl, _⟩ := hsl.parts; have hA := hide (((unhide HB).alloc _).appendw hsl hgr hblk); clear hsl hgr hblk hsp; refine unhide ?_)
  refine hide ?_
  have HC := hide (show Heap w0 _ (HP.slw (.slice A' (m + 1) cap') 7 (m + 1) (rowsC (fH8 ++ uptoL (flA 1) 4 ++ uptoL (flB 1) 4 ++ fI8)) :: L) by rw [rowsC_app _ fI8]; exact unhide hA)
  clear hA HB
  go_wp2
  refine loopX3 (n0 := 11) (d := 1) (sz := 8) (fv := 33554515) (by omega) (by decide) _ _ _ _ _ _ _ _ _ _ _ _ _ _ _ _ _ _ _ _ _ _ _ _ _ _ _ _ _ _ _ _ _ _ _ _ _ _ _ _ _ _ _ _ _ _ _ _ _ _ _ _ _ _ _ _ _ _ _ _ _ _ _ _ _ _ _ _ _ _ _ _ _ _ _ _ _ _ _ _ _ _ _ _ _ _ _ _ _ _ _ _ _ _ _ _ _ _ _ _ _ _ _ _ _ _ _ _ _ _ _ _ _ _ _ _ _ _ _ _ _ _ _ _ _ _ _ _ _ _ _ _ _ _ _ _ (show m + 1 ≤ 11 by omega) (unhide HC) _ _ _ _ _ _ _ _ _ _ _ _ _ _ _ _ _ _ _ _ _ _ _ _ _ _ _ _ _ _ _ _ _ _ _ _ _ _ _ _ _ _ _ ?_
  clear HC
  intro a' w'' hX
  obtain ⟨A, m, cap, ⟨hm, hJ⟩, hF⟩ := hX
  unfold FRX3 at hF
  obtain ⟨u76, hF⟩ := hF
  obtain ⟨u77, hF⟩ := hF
  obtain ⟨u78, hF⟩ := hF
  obtain ⟨u79, hF⟩ := hF
  obtain ⟨u80, hF⟩ := hF
  obtain ⟨u81, hF⟩ := hF
  obtain ⟨u82, hF⟩ := hF
  obtain ⟨u83, hF⟩ := hF
  obtain ⟨u84, hF⟩ := hF
  obtain ⟨u85, hF⟩ := hF
  obtain ⟨u86, hF⟩ := hF
  obtain ⟨u87, hF⟩ := hF
  obtain ⟨u88, hF⟩ := hF
  obtain ⟨u89, hF⟩ := hF
  obtain ⟨u90, hF⟩ := hF
  obtain ⟨u91, hF⟩ := hF
  obtain ⟨u92, hF⟩ := hF
  obtain ⟨u93, hF⟩ := hF
  obtain ⟨u94, hF⟩ := hF
  obtain ⟨u95, hF⟩ := hF
  obtain ⟨u96, hF⟩ := hF
  obtain ⟨u97, hF⟩ := hF
  obtain ⟨u98, hF⟩ := hF
  obtain ⟨u99, hF⟩ := hF
  obtain ⟨u100, hF⟩ := hF
  obtain ⟨u101, hF⟩ := hF
  obtain ⟨u102, hF⟩ := hF
  obtain ⟨u103, hF⟩ := hF
  obtain ⟨u104, hF⟩ := hF
  obtain ⟨u105, hF⟩ := hF
  obtain ⟨u106, hF⟩ := hF
  obtain ⟨u107, hF⟩ := hF
  obtain ⟨u108, hF⟩ := hF
  obtain ⟨u109, hF⟩ := hF
  obtain ⟨u110, hF⟩ := hF
  obtain ⟨u111, hF⟩ := hF
  obtain ⟨u112, hF⟩ := hF
  obtain ⟨u113, hF⟩ := hF
  obtain ⟨u114, hF⟩ := hF
  obtain ⟨u115, hF⟩ := hF
  obtain ⟨u116, hF⟩ := hF
  obtain ⟨u117, hF⟩ := hF
  obtain ⟨u118, hF⟩ := hF
  subst hF
  have HD := hide hJ
  clear hJ
  go_wp2_with (at_builtin; refine wpList_append_sl (n := m) (m := 1) rfl _ _ 46 rfl 49 i1 _ 7 48 Try.underlying46 hi1 hz0 hz1 hz2 rfl rfl rfl ((unhide HD).alloc _).slw (sl_blk (n := 1) (sz := 7) (xs := rowsC (fK8)) (heap_new' w'' _) rfl) (rowsC_cells _) (by omega) (by omega) ?_; intro v' w11 hsl hgr hblk hsp; obtain ⟨A', cap', rfl, _⟩ := hsl.parts; have hA := hide (((unhide HD).alloc _).appendw hsl hgr hblk); clear hsl hgr hblk hsp; refine unhide ?_)
  refine hide ?_
  have HE := hide (show Heap w0 _ (HP.slw (.slice A' (m + 1) cap') 7 (m + 1) (rowsC (fH8 ++ uptoL (flA 1) 4 ++ uptoL (flB 1) 4 ++ fI8 ++ uptoL (flC 1) 3 ++ fK8)) :: L) by rw [rowsC_app _ fK8]; exact unhide hA)
  clear hA HD
  go_wp2
  refine loopX4 (n0 := 21) (d := 1) (sz := 8) (fv := 33554515) (by omega) (by decide) _ _ _ _ _ _ _ _ _ _ _ _ _ _ _ _ _ _ _ _ _ _ _ _ _ _ _ _ _ _ _ _ _ _ _ _ _ _ _ _ _ _ _ _ _ _ _ _ _ _ _ _ _ _ _ _ _ _ _ _ _ _ _ _ _ _ _ _ _ _ _ _ _ _ _ _ _ _ _ _ _ _ _ _ _ _ _ _ _ _ _ _ _ _ _ _ _ _ _ _ _ _ _ _ _ _ _ _ _ _ _ _ _ _ _ _ _ _ _ _ _ _ _ _ _ _ _ _ _ _ _ _ _ _ _ _ _ _ _ _ _ _ _ _ _ (show m + 1 ≤ 21 by omega) (unhide HE) _ _ _ _ _ _ _ _ _ _ _ _ _ _ _ _ _ _ _ _ _ _ _ _ _ _ _ _ _ _ _ _ _ _ ?_
  clear HE
  intro a' w'' hX
  obtain ⟨A, m, cap, ⟨hm, hJ⟩, hF⟩ := hX
  unfold FRX4 at hF
  obtain ⟨u132, hF⟩ := hF
  obtain ⟨u133, hF⟩ := hF
  obtain ⟨u134, hF⟩ := hF
  obtain ⟨u135, hF⟩ := hF
  obtain ⟨u136, hF⟩ := hF
  obtain ⟨u137, hF⟩ := hF
  obtain ⟨u138, hF⟩ := hF
  obtain ⟨u139, hF⟩ := hF
  obtain ⟨u140, hF⟩ := hF
  obtain ⟨u141, hF⟩ := hF
  obtain ⟨u142, hF⟩ := hF
  obtain ⟨u143, hF⟩ := hF
  obtain ⟨u144, hF⟩ := hF
  obtain ⟨u145, hF⟩ := hF
  obtain ⟨u146, hF⟩ := hF
  obtain ⟨u147, hF⟩ := hF
  obtain ⟨u148, hF⟩ := hF
  obtain ⟨u149, hF⟩ := hF
  obtain ⟨u150, hF⟩ := hF
  obtain ⟨u151, hF⟩ := hF
  obtain ⟨u152, hF⟩ := hF
  obtain ⟨u153, hF⟩ := hF
  obtain ⟨u154, hF⟩ := hF
  obtain ⟨u155, hF⟩ := hF
  obtain ⟨u156, hF⟩ := hF
  obtain ⟨u157, hF⟩ := hF
  obtain ⟨u158, hF⟩ := hF
  obtain ⟨u159, hF⟩ := hF
  obtain ⟨u160, hF⟩ := hF
  obtain ⟨u161, hF⟩ := hF
  obtain ⟨u162, hF⟩ := hF
  obtain ⟨u163, hF⟩ := hF
  obtain ⟨u164, hF⟩ := hF
  obtain ⟨u165, hF⟩ := hF
  subst hF
  have HF := hide hJ
  clear hJ
  go_wp2_with (at_builtin; refine wpList_append_sl (n := m) (m := 3) rfl _ _ 46 rfl 49 i1 _ 7 48 Try.underlying46 hi1 hz0 hz1 hz2 rfl rfl rfl ((unhide HF).alloc _).slw (sl_blk (n := 3) (sz := 7) (xs := rowsC (fM8)) (heap_new' w'' _) rfl) (rowsC_cells _) (by omega) (by omega) ?_; intro v' w12 hsl hgr hblk hsp; obtain ⟨A', cap', rfl, _⟩ := hsl.parts; have hA := hide (((unhide HF).alloc _).appendw hsl hgr hblk); clear hsl hgr hblk hsp; refine unhide ?_)
  refine hide ?_
  have HG := hide (show Heap w0 _ (HP.slw (.slice A' (m + 3) cap') 7 (m + 3) (rowsC floatL8) :: L) by rw [show floatL8 = (fH8 ++ uptoL (flA 1) 4 ++ uptoL (flB 1) 4 ++ fI8 ++ uptoL (flC 1) 3 ++ fK8 ++ uptoL (flD 1) 4) ++ fM8 from rfl, rowsC_app _ fM8]; exact unhide hA)
  clear hA HF
  go_wp2
  go_ret
  exact ⟨A', m + 3, cap', rfl, by omega, unhide HG⟩
end
end Go.Proofs.Ytopbdiekfhikmaa
