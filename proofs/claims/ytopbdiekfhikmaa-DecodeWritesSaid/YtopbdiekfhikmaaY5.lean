/- Layer 3, the document's side: system: the walk. -/
import Derived.Test.YtopbdiekfhikmaaW8
import Derived.Test.YtopbdiekfhikmaaY1
namespace Go.Proofs.Ytopbdiekfhikmaa
open Go.RowKit
def sF : List RowS := [⟨28799, 15, 31, ⟨#[]⟩, 0, false, false⟩, ⟨28799, 4111, 32, ⟨#[]⟩, 0, false, false⟩]
def sG : List RowS := [⟨4261445631, 301990003, 52, ⟨#[49, 50]⟩, 0, false, false⟩]
def systemL : List RowS := sF ++ uptoL sA 5 ++ sG ++ uptoL sB 3 ++ uptoL sE 2
theorem Heap.rev3 {w0 w : World} {A B C : HP} {L : List HP} (h : Heap w0 w (A :: B :: C :: L)) : Heap w0 w (C :: B :: A :: L) := h.perm ((List.reverse_perm [A, B, C]).symm.append_right L)
section
variable {w0 w : World} {L : List HP}
set_option maxRecDepth 1000000 in
set_option maxHeartbeats 8000000 in
theorem rsystem_any (h : Heap w0 w L) : Calls Try.prog 42 #[] w fun r w' => ∃ A m cap, r = .returned (.slice A m cap) ∧ m ≤ 100 ∧ Heap w0 w' (HP.slw (.slice A m cap) 7 m (rowsC systemL) :: L) := by
  have H := hide h
  clear h
  obtain ⟨i1, hi1, hz0, hz1, hz2⟩ := info_parts info49
  go_enter Try.func42, Try.ntmps42
  go_wp2_with fail
  refine (op3_w 15 0 15 31 ⟨#[]⟩ _ (by decide) (by decide) (by decide) (by decide) rfl).mono ?_
  rintro r w1 ⟨rfl, g1⟩
  have H1 := hide ((unhide H).grown g1)
  clear g1 H
  go_wp2_with fail
  refine (op3_w 15 1 4111 32 ⟨#[]⟩ _ (by decide) (by decide) (by decide) (by decide) rfl).mono ?_
  rintro r w2 ⟨rfl, g1⟩
  have H2 := hide ((unhide H1).grown g1)
  clear g1 H1
  have H3 := hide ((unhide H2).newS (rowsC sF) 49 2 7 rfl)
  have H4 := hide ((unhide H3).newS ks2 22 5 1 rfl)
  have H5 := hide ((unhide H4).newS ks3 3 5 1 rfl)
  clear H2 H3 H4
  go_wp2
  have h7 := (unhide H5).rev3
  have e : ∀ (W : World) (X : Obj), (W.alloc X).heap.size = W.heap.size + 1 := fun W X => by simp
  simp only [e] at h7
  have H6 := hide h7
  clear H5 h7 e
  refine loopY1 (n0 := 2) (by omega) _ _ _ _ _ _ _ _ _ _ _ _ _ _ _ _ _ _ _ _ _ _ _ _ _ _ _ _ _ _ _ _ _ _ _ _ _ _ _ _ _ _ _ _ _ _ _ _ _ _ _ _ _ _ _ _ _ _ _ _ _ _ _ _ _ _ _ _ _ _ _ _ (Nat.le_refl 2) (unhide H6) _ _ _ _ _ _ _ _ _ _ _ _ _ _ _ _ ?_
  clear H6
  intro a' w'' hX
  obtain ⟨A, m, cap, ⟨hm, hJ⟩, hF⟩ := hX
  unfold FRY1 at hF
  obtain ⟨u15, hF⟩ := hF
  obtain ⟨u16, hF⟩ := hF
  obtain ⟨u17, hF⟩ := hF
  obtain ⟨u18, hF⟩ := hF
  obtain ⟨u19, hF⟩ := hF
  obtain ⟨u20, hF⟩ := hF
  obtain ⟨u21, hF⟩ := hF
  obtain ⟨u22, hF⟩ := hF
  obtain ⟨u23, hF⟩ := hF
  obtain ⟨u24, hF⟩ := hF
  obtain ⟨u25, hF⟩ := hF
  obtain ⟨u26, hF⟩ := hF
  obtain ⟨u27, hF⟩ := hF
  obtain ⟨u28, hF⟩ := hF
  obtain ⟨u29, hF⟩ := hF
  obtain ⟨u30, hF⟩ := hF
  subst hF
  have H7 := hide hJ
  clear hJ
  have H8 := hide (unhide H7).f2.tail.f2.tail
  clear H7
  go_wp2_with (at_builtin; refine wpList_append_sl (n := m) (m := 1) rfl _ _ 46 rfl 49 i1 _ 7 48 Try.underlying46 hi1 hz0 hz1 hz2 rfl rfl rfl ((unhide H8).alloc _).slw (sl_blk (n := 1) (sz := 7) (xs := rowsC (sG)) (heap_new' w'' _) rfl) (rowsC_cells _) (by omega) (by omega) ?_; intro v' w10 hsl hgr hblk hsp; obtain ⟨A', cap', rfl, _⟩ := hsl.parts; have hA := hide (((unhide H8).alloc _).appendw hsl hgr hblk); clear hsl hgr hblk hsp; refine unhide ?_)
  refine hide ?_
  have H9 := hide (show Heap w0 _ (HP.slw (.slice A' (m + 1) cap') 7 (m + 1) (rowsC (sF ++ uptoL sA 5 ++ sG)) :: L) by rw [rowsC_app _ sG]; exact unhide hA)
  clear hA H8
  go_wp2
  refine loopY2 (n0 := 8) (by omega) _ _ _ _ _ _ _ _ _ _ _ _ _ _ _ _ _ _ _ _ _ _ _ _ _ _ _ _ _ _ _ _ _ _ _ _ _ _ _ _ _ _ _ _ _ _ _ _ _ _ _ _ _ _ _ _ _ _ _ _ _ _ _ _ _ _ _ _ _ _ _ (show m + 1 ≤ 8 by omega) (unhide H9) _ _ _ _ _ _ _ _ _ _ _ _ _ _ _ _ _ _ _ ?_
  clear H9
  intro a' w'' hX
  obtain ⟨A, m, cap, ⟨hm, hJ⟩, hF⟩ := hX
  unfold FRY2 at hF
  obtain ⟨u35, hF⟩ := hF
  obtain ⟨u36, hF⟩ := hF
  obtain ⟨u37, hF⟩ := hF
  obtain ⟨u38, hF⟩ := hF
  obtain ⟨u39, hF⟩ := hF
  obtain ⟨u40, hF⟩ := hF
  obtain ⟨u41, hF⟩ := hF
  obtain ⟨u42, hF⟩ := hF
  obtain ⟨u43, hF⟩ := hF
  obtain ⟨u44, hF⟩ := hF
  obtain ⟨u45, hF⟩ := hF
  obtain ⟨u46, hF⟩ := hF
  obtain ⟨u47, hF⟩ := hF
  obtain ⟨u48, hF⟩ := hF
  obtain ⟨u49, hF⟩ := hF
  obtain ⟨u50, hF⟩ := hF
  obtain ⟨u51, hF⟩ := hF
  obtain ⟨u52, hF⟩ := hF
  obtain ⟨u53, hF⟩ := hF
  subst hF
  have HB := hide hJ
  clear hJ
  have HB2 := hide ((unhide HB).newS f5s 22 10 1 rfl)
  go_wp2
  have HB3 := hide (unhide HB2).f2
  clear HB HB2
  refine loopY3 (n0 := 14) (by omega) _ _ _ _ _ _ _ _ _ _ _ _ _ _ _ _ _ _ _ _ _ _ _ _ _ _ _ _ _ _ _ _ _ _ _ _ _ _ _ _ _ _ _ _ _ _ _ _ _ _ _ _ (show m ≤ 14 by omega) (unhide HB3) _ _ _ _ _ _ _ _ _ _ _ _ _ _ _ _ _ _ _ _ _ _ _ _ _ _ _ _ _ _ _ _ _ _ _ _ _ ?_
  clear HB3
  intro a' w'' hX
  obtain ⟨A, m, cap, ⟨hm, hJ⟩, hF⟩ := hX
  unfold FRY3 at hF
  obtain ⟨u8, hF⟩ := hF
  obtain ⟨u9, hF⟩ := hF
  obtain ⟨u55, hF⟩ := hF
  obtain ⟨u56, hF⟩ := hF
  obtain ⟨u57, hF⟩ := hF
  obtain ⟨u58, hF⟩ := hF
  obtain ⟨u59, hF⟩ := hF
  obtain ⟨u60, hF⟩ := hF
  obtain ⟨u61, hF⟩ := hF
  obtain ⟨u62, hF⟩ := hF
  obtain ⟨u63, hF⟩ := hF
  obtain ⟨u64, hF⟩ := hF
  obtain ⟨u65, hF⟩ := hF
  obtain ⟨u66, hF⟩ := hF
  obtain ⟨u67, hF⟩ := hF
  obtain ⟨u68, hF⟩ := hF
  obtain ⟨u69, hF⟩ := hF
  obtain ⟨u70, hF⟩ := hF
  obtain ⟨u71, hF⟩ := hF
  obtain ⟨u72, hF⟩ := hF
  obtain ⟨u73, hF⟩ := hF
  obtain ⟨u74, hF⟩ := hF
  obtain ⟨u75, hF⟩ := hF
  obtain ⟨u76, hF⟩ := hF
  obtain ⟨u77, hF⟩ := hF
  obtain ⟨u78, hF⟩ := hF
  obtain ⟨u79, hF⟩ := hF
  obtain ⟨u80, hF⟩ := hF
  obtain ⟨u81, hF⟩ := hF
  obtain ⟨u82, hF⟩ := hF
  obtain ⟨u83, hF⟩ := hF
  obtain ⟨u84, hF⟩ := hF
  obtain ⟨u85, hF⟩ := hF
  obtain ⟨u86, hF⟩ := hF
  obtain ⟨u87, hF⟩ := hF
  obtain ⟨u88, hF⟩ := hF
  obtain ⟨u89, hF⟩ := hF
  subst hF
  have HC := hide hJ
  clear hJ
  have HC2 := hide (unhide HC).f2.tail
  clear HC
  go_wp2
  go_ret
  exact ⟨A, m, cap, rfl, by omega, unhide HC2⟩
end
end Go.Proofs.Ytopbdiekfhikmaa
