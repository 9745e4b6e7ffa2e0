/- Layer 23: LsqOrder: the walk. -/
import Derived.Test.YtdmkgomcomcfhaaQ34
import Derived.Laws.BytesArg
namespace Go.Proofs.Ytdmkgomcomcfhaa
open Go.RowKit

theorem info54 : (Try.prog.info? 54).map (fun i => (i.zero, i.size, i.bytes)) = some (some (.agg #[.bool false, .int .i64 0, .int .i64 0, .int .u64 0, .int .u64 0]), 5, 40) := by kernel_rfl
theorem want_up (Y : Nat → OpS) {i : Nat} {x : Int} (hx : wantF Y i = x) : (fun j => if j = i then x else if j < i then wantF Y j else 0) = (fun j => if j < i + 1 then wantF Y j else 0) := by
  funext j
  by_cases h : j = i
  · subst h; rw [if_pos rfl, if_pos (by omega), hx]
  · rw [if_neg h]
    by_cases h2 : j < i
    · rw [if_pos h2, if_pos (by omega)]
    · rw [if_neg h2, if_neg (by omega)]
theorem want_up0 (Y : Nat → OpS) {i : Nat} (hx : wantF Y i = 0) : (fun j => if j < i then wantF Y j else 0) = (fun j => if j < i + 1 then wantF Y j else 0) := by
  funext j
  by_cases h2 : j < i
  · rw [if_pos h2, if_pos (by omega)]
  · rw [if_neg h2]
    by_cases h : j = i
    · subst h; rw [if_pos (by omega), hx]
    · rw [if_neg (by omega)]
theorem memP_up (Y : Nat → OpS) (i : Nat) : memP Y (i + 1) = if (Y i).store then wrM (memP Y i) (Y i).at_.toNat (Y i).size.toNat (Y i).v else memP Y i := rfl
theorem str_bytes (w : World) (g : Nat) (M : Nat → Int) (h : ∀ j, j < 64 → w.cell? ⟨g, 0 + j, none⟩ = some (.int .u8 (M j))) : (convert 52 9 (.slice (some ⟨g, 0, none⟩) 64 64)).run Try.prog w = .ok (.string (strOfNums ((List.range 64).map M))) w :=
  run_convert_bytes_arg w 52 5 Try.underlying52 Try.underlying5 g 0 64 64 ((List.range 64).map M) (by simp) (fun i hi => by rw [h i hi]; simp [List.getD, List.getElem?_range hi]) 9 Try.underlying9
theorem slw_bytes {w0 w : World} {L : List HP} {g : Nat} {M : Nat → Int} (h : Heap w0 w (HP.slw (.slice (some ⟨g, 0, none⟩) 64 64) 1 64 (bytes 64 M) :: L)) : ∀ j, j < 64 → w.cell? ⟨g, 0 + j, none⟩ = some (.int .u8 (M j)) := fun j hj => by
  have := (h.slw.at_ (j := j) (by omega)).2.1
  rw [bytes_get _ _ hj] at this
  exact this

set_option maxRecDepth 1000000 in
set_option maxHeartbeats 8000000 in
theorem order_walk (A A2 : Option Addr) (n cap p cap2 : Nat) (W : World) (hS : SlArg [none, some .i64, some .i64, some .u64, some .u64] W A n) (hn : n ≤ 3518437208880) (hS2 : SlArg [some .u64] W A2 p) (hp : p ≤ 17592186044416) :
    Calls Try.prog 4 #[.slice A n cap, .slice A2 p cap2] W fun e w' => e = .returned (.bool true) ∧ Below W.heap.size W w' := by
  obtain ⟨X, hX⟩ := op_fun hS
  obtain ⟨P, hPk⟩ := pk_fun hS2
  obtain ⟨Y, hYX⟩ : ∃ Y : Nat → OpS, ∀ i, Y i = rightO (X i) := ⟨fun i => rightO (X i), fun _ => rfl⟩
  have hY : ∀ i, i < n → YOk (Y i) := fun i hi => by rw [hYX]; exact right_ok (hX i hi).1
  have HX := hide hX
  have HP_ := hide (show PkO W A2 p P from hPk)
  have HY := hide hY
  have HYX := hide hYX
  clear hS hS2 hX hPk hY hYX
  go_enter Try.func4, Try.ntmps4
  go_wp2_with fail
  refine (fixed_h (Heap.nil W)).mono ?_
  rintro r w1 ⟨rfl, h1⟩
  have h2 := ((h1.emptyW (sz := 5) 54).newS (u64s n fun _ => 0) 28 n 1 (by rw [u64s_len]; omega)).newS (bytes 64 fun _ => 0) 5 64 1 (bytes_len _ _)
  obtain ⟨k0, hk0⟩ : ∃ k, w1.heap.size = k := ⟨_, rfl⟩
  rw [show ((w1.alloc (.cells #[] 54)).alloc (.cells (u64s n fun _ => 0).toArray 28)).heap.size = w1.heap.size + 2 by simp, show (w1.alloc (.cells #[] 54)).heap.size = w1.heap.size + 1 by simp, hk0] at h2
  have HK0 := hide hk0
  have hmk := mk52
  have hmk2 := mk51 n (by omega)
  have H2 := hide h2
  clear hk0 h1 h2
  go_upto_region 7 with fail
  rw [unhide HK0]
  clear hmk hmk2
  obtain ⟨kw, hkw⟩ : ∃ k, k0 + 1 = k := ⟨_, rfl⟩
  obtain ⟨kp, hkp⟩ : ∃ k, k0 + 2 = k := ⟨_, rfl⟩
  rw [show k0 + 1 + 1 = kp from hkp]
  rw [hkw]
  rw [hkp, hkw] at H2
  have h3 := (unhide H2).f2.f3
  generalize ((w1.alloc (.cells #[] 54)).alloc (.cells (u64s n fun _ => 0).toArray 28)).alloc (.cells (bytes 64 fun _ => 0).toArray 5) = w2 at h3 ⊢
  have e0 : (fun j => if j < 0 then wantF Y j else 0) = fun _ => 0 := by funext j; simp
  have H3 := hide (show Heap W w2 [HP.slw (.slice (some ⟨k0, 0, none⟩) 0 0) 5 0 (opsC Y 0), HP.slw (.slice (some ⟨kw, 0, none⟩) n n) 1 n (u64s n (fun j => if j < 0 then wantF Y j else 0)), HP.slw (.slice (some ⟨kp, 0, none⟩) 64 64) 1 64 (bytes 64 (memP Y 0))] by rw [e0]; exact h3)
  clear h3 H2 HK0 hkw hkp e0
  go_wp2
  go_loopw [6, 9] (fun s6 s9 wr => ∃ (i : Nat) (AO : Option Addr) (capO : Nat), s6 = .slice AO i capO ∧ s9 = .int .i64 i ∧ i ≤ n ∧ Heap W wr [HP.slw (.slice AO i capO) 5 i (opsC Y i), HP.slw (.slice (some ⟨kw, 0, none⟩) n n) 1 n (u64s n (fun j => if j < i then wantF Y j else 0)), HP.slw (.slice (some ⟨kp, 0, none⟩) 64 64) 1 64 (bytes 64 (memP Y i))]) (fun _ s9 _ => n - (intOf s9).toNat)
  case atStart => exact ⟨0, some ⟨k0, 0, none⟩, 0, rfl, rfl, Nat.zero_le _, unhide H3⟩
  case round =>
    obtain ⟨i, AO, capO, rfl, rfl, hin, hJ⟩ := hrel
    clear H3
    by_cases hlt : i < n
    · obtain ⟨hz, hat⟩ := unhide HX i hlt
      obtain ⟨ab, ao, rfl, ⟨c0, c1, c2, c3, c4⟩, hab⟩ := hat _ hJ.below
      have HJ := hide hJ
      clear hJ hat
      go_wp2_with fail
      refine (right_y (unhide HJ) (X i) hz).mono ?_
      rintro r_ w5 ⟨y, hyz, hy, rfl, h5⟩
      clear c0 c1 c2 c3 c4 hab HJ hz
      obtain rfl : y = Y i := by rw [hyz, unhide HYX i]
      clear hyz
      have h6 := h5.new #[.bool (Y i).store, .int .i64 (Y i).at_, .int .i64 (Y i).size, .int .u64 (Y i).v, .int .u64 (Y i).pc] 54
      obtain ⟨kb, hkb⟩ : ∃ k, w5.heap.size = k := ⟨_, rfl⟩
      rw [hkb] at h6
      have HKB := hide hkb
      have H6 := hide h6
      have HYI := hide hy
      clear h5 h6 hkb hy
      obtain ⟨i1, hi1, hz0, hz1, hz2⟩ := info_parts info54
      go_wp2_with (at_builtin; refine wpList_append_sl (n := i) (m := 1) rfl _ _ 50 rfl 54 i1 _ 5 40 Try.underlying50 hi1 hz0 hz1 hz2 rfl rfl rfl ((unhide H6).f2.slw.alloc _) (Sl.row _ 54 [.bool (Y i).store, .int .i64 (Y i).at_, .int .i64 (Y i).size, .int .u64 (Y i).v, .int .u64 (Y i).pc] (by simp)) (by intro y hy; simp at hy; rcases hy with rfl | rfl | rfl | rfl | rfl <;> rfl) (by omega) (by omega) ?_; intro v' w7 hsl hgr hblk hsp; obtain ⟨A', cap', rfl, _⟩ := hsl.parts; have hA := hide (((unhide H6).f2.alloc _).appendw hsl hgr hblk); clear hsl hgr hblk hsp; refine unhide ?_)
      rw [unhide HKB]
      refine hide ?_
      have h7 : Heap W w7 [HP.slw (.slice A' (i + 1) cap') 5 (i + 1) (opsC Y (i + 1)), HP.blk kb #[.bool (Y i).store, .int .i64 (Y i).at_, .int .i64 (Y i).size, .int .u64 (Y i).v, .int .u64 (Y i).pc] 54, HP.slw (.slice (some ⟨kw, 0, none⟩) n n) 1 n (u64s n (fun j => if j < i then wantF Y j else 0)), HP.slw (.slice (some ⟨kp, 0, none⟩) 64 64) 1 64 (bytes 64 (memP Y i))] := by rw [opsC_succ]; exact unhide hA
      obtain ⟨d0, d1, d2, d3, d4⟩ := cells5 h7.f2.heap
      have hxl := lt_of_heap' h7.f2.heap
      have H7 := hide h7
      clear h7 hA H6 hi1 hz0 hz1 hz2
      have HMU := hide (memP_up Y i)
      cases hst : (Y i).store with
      | true =>
        rw [hst] at d0 H7
        have hm : memP Y (i + 1) = wrM (memP Y i) (Y i).at_.toNat (Y i).size.toNat (Y i).v := by rw [unhide HMU, hst]; rfl
        have hw0 : wantF Y i = 0 := by unfold wantF; rw [hst]; rfl
        have HMW := hide (And.intro hm (want_up0 Y hw0))
        clear hm hw0 hst
        go_wp2_with fail
        refine (write_i (Heap.f4 (unhide H7)) (unhide HYI) (Y i).v (unhide HYI).v).mono ?_
        rintro r_ w8 ⟨rfl, h8⟩
        rw [← (unhide HMW).1, (unhide HMW).2] at h8
        have H8 := hide (h8.f3.tail.f3.f3)
        clear h8 H7
        go_wp2
        exact ⟨⟨i + 1, A', cap', rfl, by go_num, by omega, unhide H8⟩, by simp [intOf]; omega⟩
      | false =>
        rw [hst] at d0 H7
        have hm : memP Y (i + 1) = memP Y i := by rw [unhide HMU, hst]; rfl
        have hw0 : wantF Y i = rdM (memP Y i) (Y i).at_.toNat (Y i).size.toNat := by unfold wantF; rw [hst]; rfl
        have HMW := hide (And.intro hm (want_up Y hw0))
        clear hm hw0 hst
        go_wp2_with fail
        refine (read_i (memP_bm Y i) (Heap.f4 (unhide H7)) (unhide HYI)).mono ?_
        rintro r_ w8 ⟨rfl, h8⟩
        obtain ⟨x0, x1, x2⟩ := u64_cell (Heap.f4 h8).slw hlt
        have hw := (Heap.f4 h8).write (j := i) (by omega) (.int .u64 (rdM (memP Y i) (Y i).at_.toNat (Y i).size.toNat))
        rw [u64s_set _ _ hlt, Nat.zero_add, (unhide HMW).2] at hw
        rw [Nat.zero_add] at x0 x1
        have H8 := hide (hw.f4.tail.f3)
        clear h8 H7 hw
        go_wp2
        exact ⟨⟨i + 1, A', cap', rfl, by go_num, by omega, by rw [(unhide HMW).1]; exact unhide H8⟩, by simp [intOf]; omega⟩
    · obtain rfl : i = n := by omega
      rw [u64s_ext (fun j hj => if_pos hj : ∀ j, j < i → (if j < i then wantF Y j else 0) = wantF Y j)] at hJ
      have HJ := hide hJ
      clear hJ HX HYX
      go_wp2_with fail
      refine (new_h (unhide HJ)).mono ?_
      rintro r_ w3 ⟨b, rfl, h3⟩
      unfold ptr
      have h4 := ((h3.newS (bytes 64 fun _ => 0) 5 64 1 (bytes_len _ _)).newS (u64s i fun _ => 0) 28 i 1 (by rw [u64s_len]; omega)).newS (bls i fun _ => false) 4 i 1 (by rw [bls_len]; omega)
      obtain ⟨km, hkm⟩ : ∃ k, w3.heap.size = k := ⟨_, rfl⟩
      rw [show ((w3.alloc (.cells (bytes 64 fun _ => 0).toArray 5)).alloc (.cells (u64s i fun _ => 0).toArray 28)).heap.size = w3.heap.size + 2 by simp, show (w3.alloc (.cells (bytes 64 fun _ => 0).toArray 5)).heap.size = w3.heap.size + 1 by simp, hkm] at h4
      have HKM := hide hkm
      have hmk := mk52
      have hmk2 := mk51 i (by omega)
      have hmk3 := mk58 i (by omega)
      have H4 := hide h4
      clear hkm h3 h4 HJ
      go_upto_region 19 with fail
      rw [unhide HKM]
      clear hmk hmk2 hmk3
      obtain ⟨kg, hkg⟩ : ∃ k, km + 1 = k := ⟨_, rfl⟩
      obtain ⟨kh, hkh⟩ : ∃ k, km + 2 = k := ⟨_, rfl⟩
      rw [show km + 1 + 1 = kh from hkh]
      rw [hkg]
      rw [hkh, hkg] at H4
      generalize ((w3.alloc (.cells (bytes 64 fun _ => 0).toArray 5)).alloc (.cells (u64s i fun _ => 0).toArray 28)).alloc (.cells (bls i fun _ => false).toArray 4) = w4 at H4 ⊢
      have H5 := hide ((unhide H4).f3.f3.f2.perm (List.perm_append_comm (l₁ := [_, _, _]) (l₂ := _)))
      clear H4 HKM hkg hkh
      go_wp2
      refine loopO (W := W) (Y := Y) (P := P) (unhide HY) (by omega) hp (unhide HP_) _ _ _ _ _ _ _ _ _ _ _ _ _ _ _ _ _ _ _ _ _ _ _ _ _ _ _ _ _ _ _ _ _ _ _ _ _ _ _ _ _ _ _ _ _ _ _ _ _ _ _ _ _ _ _ _ _ _ _ _ _ _ (s := ⟨Q0, 0, 0, fun _ => false, fun _ => 0, fun _ => 0⟩) ⟨OI.start Y i, PG.start i p _, by omega, unhide H5⟩ _ _ _ _ _ _ _ _ _ _ _ _ _ _ _ _ _ _ _ _ _ _ _ _ _ _ _ _ _ _ _ _ _ _ _ _ _ _ _ _ _ _ _ _ _ _ _ _ _ _ _ _ _ _ _ _ _ _ _ _ _ _ _ _ _ _ _ _ _ _ _ _ _ _ _ _ _ _ _ _ _ _ _ _ _ _ _ _ _ _ _ _ _ _ _ _ _ _ _ _ _ _ _ _ _ _ _ _ _ _ _ _ _ _ _ _ _ _ _ _ _ _ _ _ _ _ _ _ _ _ _ _ _ _ _ _ _ _ _ _ _ _ _ _ _ _ _ _ _ _ _ _ _ _ _ _ _ _ _ _ _ _ _ _ _ _ _ _ _ _ _ _ _ _ _ _ _ _ _ _ _ _ _ _ _ _ _ _ _ _ _ _ _ _ _ _ _ _ _ _ _ _ _ _ _ _ _ _ _ _ _ _ _ _ _ _ _ _ _ _ _ _ _ _ _ _ _ _ _ _ _ _ _ _ _ _ _ _ _ _ _ _ _ _ _ _ _ _ _ _ _ _ _ _ _ _ _ _ _ _ _ _ _ _ _ _ _ _ _ _ _ _ _ _ _ _ _ _ _ _ _ _ _ _ _ ?_
      intro a' w'' hX
      obtain ⟨s, hR, hF⟩ := hX
      unfold FRO at hF
      obtain ⟨u4, hF⟩ := hF
      obtain ⟨u18, hF⟩ := hF
      obtain ⟨u19, hF⟩ := hF
      obtain ⟨u20, hF⟩ := hF
      obtain ⟨u21, hF⟩ := hF
      obtain ⟨u22, hF⟩ := hF
      obtain ⟨u23, hF⟩ := hF
      obtain ⟨u24, hF⟩ := hF
      obtain ⟨u25, hF⟩ := hF
      obtain ⟨u26, hF⟩ := hF
      obtain ⟨u27, hF⟩ := hF
      obtain ⟨u28, hF⟩ := hF
      obtain ⟨u29, hF⟩ := hF
      obtain ⟨u30, hF⟩ := hF
      obtain ⟨u31, hF⟩ := hF
      obtain ⟨u32, hF⟩ := hF
      obtain ⟨u80, hF⟩ := hF
      obtain ⟨u81, hF⟩ := hF
      obtain ⟨u82, hF⟩ := hF
      obtain ⟨u83, hF⟩ := hF
      obtain ⟨u84, hF⟩ := hF
      obtain ⟨u85, hF⟩ := hF
      obtain ⟨u86, hF⟩ := hF
      obtain ⟨u87, hF⟩ := hF
      obtain ⟨u88, hF⟩ := hF
      obtain ⟨u89, hF⟩ := hF
      obtain ⟨u90, hF⟩ := hF
      obtain ⟨u91, hF⟩ := hF
      obtain ⟨u92, hF⟩ := hF
      obtain ⟨u93, hF⟩ := hF
      obtain ⟨u94, hF⟩ := hF
      obtain ⟨u95, hF⟩ := hF
      obtain ⟨u96, hF⟩ := hF
      obtain ⟨u97, hF⟩ := hF
      obtain ⟨u98, hF⟩ := hF
      obtain ⟨u99, hF⟩ := hF
      obtain ⟨u100, hF⟩ := hF
      obtain ⟨u101, hF⟩ := hF
      obtain ⟨u102, hF⟩ := hF
      obtain ⟨u103, hF⟩ := hF
      obtain ⟨u104, hF⟩ := hF
      obtain ⟨u105, hF⟩ := hF
      obtain ⟨u106, hF⟩ := hF
      obtain ⟨u107, hF⟩ := hF
      obtain ⟨u108, hF⟩ := hF
      obtain ⟨u109, hF⟩ := hF
      obtain ⟨u110, hF⟩ := hF
      obtain ⟨u111, hF⟩ := hF
      obtain ⟨u112, hF⟩ := hF
      obtain ⟨u113, hF⟩ := hF
      obtain ⟨u114, hF⟩ := hF
      obtain ⟨u115, hF⟩ := hF
      obtain ⟨u116, hF⟩ := hF
      obtain ⟨u117, hF⟩ := hF
      obtain ⟨u118, hF⟩ := hF
      obtain ⟨u119, hF⟩ := hF
      obtain ⟨u120, hF⟩ := hF
      obtain ⟨u121, hF⟩ := hF
      obtain ⟨u122, hF⟩ := hF
      obtain ⟨u123, hF⟩ := hF
      obtain ⟨u124, hF⟩ := hF
      obtain ⟨u125, hF⟩ := hF
      obtain ⟨u126, hF⟩ := hF
      obtain ⟨u127, hF⟩ := hF
      obtain ⟨u128, hF⟩ := hF
      obtain ⟨u129, hF⟩ := hF
      obtain ⟨u130, hF⟩ := hF
      obtain ⟨u131, hF⟩ := hF
      obtain ⟨u132, hF⟩ := hF
      obtain ⟨u133, hF⟩ := hF
      obtain ⟨u134, hF⟩ := hF
      obtain ⟨u135, hF⟩ := hF
      obtain ⟨u136, hF⟩ := hF
      obtain ⟨u137, hF⟩ := hF
      obtain ⟨u138, hF⟩ := hF
      obtain ⟨u139, hF⟩ := hF
      obtain ⟨u140, hF⟩ := hF
      obtain ⟨u141, hF⟩ := hF
      obtain ⟨u142, hF⟩ := hF
      obtain ⟨u143, hF⟩ := hF
      obtain ⟨u144, hF⟩ := hF
      obtain ⟨u145, hF⟩ := hF
      obtain ⟨u146, hF⟩ := hF
      obtain ⟨u147, hF⟩ := hF
      obtain ⟨u148, hF⟩ := hF
      obtain ⟨u149, hF⟩ := hF
      obtain ⟨u150, hF⟩ := hF
      obtain ⟨u151, hF⟩ := hF
      obtain ⟨u152, hF⟩ := hF
      obtain ⟨u153, hF⟩ := hF
      obtain ⟨u154, hF⟩ := hF
      obtain ⟨u155, hF⟩ := hF
      obtain ⟨u156, hF⟩ := hF
      obtain ⟨u157, hF⟩ := hF
      obtain ⟨u158, hF⟩ := hF
      obtain ⟨u159, hF⟩ := hF
      obtain ⟨u160, hF⟩ := hF
      obtain ⟨u161, hF⟩ := hF
      obtain ⟨u162, hF⟩ := hF
      obtain ⟨u163, hF⟩ := hF
      obtain ⟨u164, hF⟩ := hF
      obtain ⟨u165, hF⟩ := hF
      obtain ⟨u166, hF⟩ := hF
      obtain ⟨u167, hF⟩ := hF
      obtain ⟨u168, hF⟩ := hF
      obtain ⟨u169, hF⟩ := hF
      obtain ⟨u170, hF⟩ := hF
      obtain ⟨u171, hF⟩ := hF
      obtain ⟨u172, hF⟩ := hF
      obtain ⟨u173, hF⟩ := hF
      obtain ⟨u174, hF⟩ := hF
      obtain ⟨u175, hF⟩ := hF
      obtain ⟨u176, hF⟩ := hF
      obtain ⟨u177, hF⟩ := hF
      obtain ⟨u178, hF⟩ := hF
      obtain ⟨u179, hF⟩ := hF
      obtain ⟨u180, hF⟩ := hF
      obtain ⟨u181, hF⟩ := hF
      obtain ⟨u182, hF⟩ := hF
      obtain ⟨u183, hF⟩ := hF
      obtain ⟨u184, hF⟩ := hF
      obtain ⟨u185, hF⟩ := hF
      obtain ⟨u186, hF⟩ := hF
      obtain ⟨u187, hF⟩ := hF
      obtain ⟨u188, hF⟩ := hF
      obtain ⟨u189, hF⟩ := hF
      obtain ⟨u190, hF⟩ := hF
      obtain ⟨u191, hF⟩ := hF
      obtain ⟨u192, hF⟩ := hF
      obtain ⟨u193, hF⟩ := hF
      obtain ⟨u194, hF⟩ := hF
      obtain ⟨u195, hF⟩ := hF
      obtain ⟨u196, hF⟩ := hF
      obtain ⟨u197, hF⟩ := hF
      obtain ⟨u198, hF⟩ := hF
      obtain ⟨u199, hF⟩ := hF
      obtain ⟨u200, hF⟩ := hF
      obtain ⟨u201, hF⟩ := hF
      obtain ⟨u202, hF⟩ := hF
      obtain ⟨u203, hF⟩ := hF
      obtain ⟨u204, hF⟩ := hF
      obtain ⟨u205, hF⟩ := hF
      obtain ⟨u206, hF⟩ := hF
      obtain ⟨u207, hF⟩ := hF
      obtain ⟨u208, hF⟩ := hF
      obtain ⟨u209, hF⟩ := hF
      obtain ⟨u210, hF⟩ := hF
      obtain ⟨u211, hF⟩ := hF
      obtain ⟨u212, hF⟩ := hF
      obtain ⟨u213, hF⟩ := hF
      obtain ⟨u214, hF⟩ := hF
      obtain ⟨u215, hF⟩ := hF
      obtain ⟨u216, hF⟩ := hF
      obtain ⟨u217, hF⟩ := hF
      obtain ⟨u218, hF⟩ := hF
      obtain ⟨u219, hF⟩ := hF
      obtain ⟨u220, hF⟩ := hF
      obtain ⟨u221, hF⟩ := hF
      obtain ⟨u222, hF⟩ := hF
      obtain ⟨u223, hF⟩ := hF
      obtain ⟨u224, hF⟩ := hF
      obtain ⟨u225, hF⟩ := hF
      obtain ⟨u226, hF⟩ := hF
      obtain ⟨u227, hF⟩ := hF
      obtain ⟨u228, hF⟩ := hF
      obtain ⟨u229, hF⟩ := hF
      obtain ⟨u230, hF⟩ := hF
      obtain ⟨u231, hF⟩ := hF
      obtain ⟨u232, hF⟩ := hF
      obtain ⟨u233, hF⟩ := hF
      obtain ⟨u234, hF⟩ := hF
      obtain ⟨u235, hF⟩ := hF
      obtain ⟨u236, hF⟩ := hF
      obtain ⟨u237, hF⟩ := hF
      obtain ⟨u238, hF⟩ := hF
      obtain ⟨u239, hF⟩ := hF
      obtain ⟨u240, hF⟩ := hF
      obtain ⟨u241, hF⟩ := hF
      obtain ⟨u242, hF⟩ := hF
      obtain ⟨u243, hF⟩ := hF
      obtain ⟨u244, hF⟩ := hF
      obtain ⟨u245, hF⟩ := hF
      obtain ⟨u246, hF⟩ := hF
      obtain ⟨u247, hF⟩ := hF
      obtain ⟨u248, hF⟩ := hF
      obtain ⟨u249, hF⟩ := hF
      obtain ⟨u250, hF⟩ := hF
      obtain ⟨u251, hF⟩ := hF
      obtain ⟨u252, hF⟩ := hF
      obtain ⟨u253, hF⟩ := hF
      obtain ⟨u254, hF⟩ := hF
      obtain ⟨u255, hF⟩ := hF
      obtain ⟨u256, hF⟩ := hF
      obtain ⟨u257, hF⟩ := hF
      obtain ⟨u258, hF⟩ := hF
      obtain ⟨u259, hF⟩ := hF
      obtain ⟨u260, hF⟩ := hF
      obtain ⟨u261, hF⟩ := hF
      obtain ⟨u262, hF⟩ := hF
      obtain ⟨u263, hF⟩ := hF
      obtain ⟨u264, hF⟩ := hF
      obtain ⟨u265, hF⟩ := hF
      obtain ⟨u266, hF⟩ := hF
      obtain ⟨u267, hF⟩ := hF
      obtain ⟨u268, hF⟩ := hF
      obtain ⟨u269, hF⟩ := hF
      obtain ⟨u270, hF⟩ := hF
      obtain ⟨u271, hF⟩ := hF
      obtain ⟨u272, hF⟩ := hF
      obtain ⟨u273, hF⟩ := hF
      obtain ⟨u274, hF⟩ := hF
      obtain ⟨u275, hF⟩ := hF
      obtain ⟨u276, hF⟩ := hF
      obtain ⟨u277, hF⟩ := hF
      obtain ⟨u278, hF⟩ := hF
      obtain ⟨u279, hF⟩ := hF
      obtain ⟨u280, hF⟩ := hF
      obtain ⟨u281, hF⟩ := hF
      obtain ⟨u282, hF⟩ := hF
      obtain ⟨u283, hF⟩ := hF
      obtain ⟨u284, hF⟩ := hF
      obtain ⟨u285, hF⟩ := hF
      obtain ⟨u286, hF⟩ := hF
      obtain ⟨u287, hF⟩ := hF
      obtain ⟨u288, hF⟩ := hF
      obtain ⟨u289, hF⟩ := hF
      obtain ⟨u290, hF⟩ := hF
      obtain ⟨u291, hF⟩ := hF
      obtain ⟨u292, hF⟩ := hF
      obtain ⟨u293, hF⟩ := hF
      obtain ⟨u294, hF⟩ := hF
      obtain ⟨u295, hF⟩ := hF
      obtain ⟨u296, hF⟩ := hF
      obtain ⟨u297, hF⟩ := hF
      obtain ⟨u298, hF⟩ := hF
      obtain ⟨u299, hF⟩ := hF
      obtain ⟨u300, hF⟩ := hF
      obtain ⟨u301, hF⟩ := hF
      obtain ⟨u302, hF⟩ := hF
      obtain ⟨u303, hF⟩ := hF
      obtain ⟨u304, hF⟩ := hF
      obtain ⟨u305, hF⟩ := hF
      obtain ⟨u306, hF⟩ := hF
      obtain ⟨u307, hF⟩ := hF
      obtain ⟨u308, hF⟩ := hF
      obtain ⟨u309, hF⟩ := hF
      obtain ⟨u310, hF⟩ := hF
      obtain ⟨u311, hF⟩ := hF
      obtain ⟨u312, hF⟩ := hF
      obtain ⟨u313, hF⟩ := hF
      obtain ⟨u314, hF⟩ := hF
      obtain ⟨u315, hF⟩ := hF
      obtain ⟨u316, hF⟩ := hF
      obtain ⟨u317, hF⟩ := hF
      obtain ⟨u318, hF⟩ := hF
      obtain ⟨u319, hF⟩ := hF
      obtain ⟨u320, hF⟩ := hF
      obtain ⟨u321, hF⟩ := hF
      obtain ⟨u322, hF⟩ := hF
      obtain ⟨u323, hF⟩ := hF
      obtain ⟨u324, hF⟩ := hF
      obtain ⟨u325, hF⟩ := hF
      obtain ⟨u326, hF⟩ := hF
      obtain ⟨u327, hF⟩ := hF
      obtain ⟨u328, hF⟩ := hF
      obtain ⟨u329, hF⟩ := hF
      obtain ⟨u330, hF⟩ := hF
      obtain ⟨u331, hF⟩ := hF
      obtain ⟨u332, hF⟩ := hF
      obtain ⟨u333, hF⟩ := hF
      obtain ⟨u334, hF⟩ := hF
      obtain ⟨u335, hF⟩ := hF
      obtain ⟨u336, hF⟩ := hF
      obtain ⟨u337, hF⟩ := hF
      obtain ⟨u338, hF⟩ := hF
      obtain ⟨u339, hF⟩ := hF
      obtain ⟨u340, hF⟩ := hF
      obtain ⟨u341, hF⟩ := hF
      obtain ⟨u342, hF⟩ := hF
      obtain ⟨u343, hF⟩ := hF
      obtain ⟨u344, hF⟩ := hF
      obtain ⟨u345, hF⟩ := hF
      obtain ⟨u346, hF⟩ := hF
      obtain ⟨u347, hF⟩ := hF
      obtain ⟨u348, hF⟩ := hF
      subst hF
      have hfi : s.first = i := by have := hR.inv.fn; have := hR.pg.done; omega
      have hm := hR.inv.mem
      rw [hfi] at hm
      have hh := hR.heap
      rw [hm] at hh
      have s1 := str_bytes w'' km (memP Y i) (slw_bytes hh.f5)
      have s2 := str_bytes w'' kp (memP Y i) (slw_bytes hh.f4)
      have HB := hide hh.below
      clear hR hh hm H5
      rw [hfi]
      generalize strOfNums ((List.range 64).map (memP Y i)) = str at s1 s2
      go_wp2
      go_ret
      exact ⟨rfl, unhide HB⟩
end Go.Proofs.Ytdmkgomcomcfhaa
