/- Layer 4: the document's table, column 0. -/
import Derived.Test.YtblbgalpkodibaaDoorR3
import Derived.Test.YtblbgalpkodibaaDoorS4
namespace Go.Proofs.YtblbgalpkodibaaDoor
open Go.RowKit

theorem new_ints (l : List Nat) (w : World) : IntsAt (w.alloc (.cells (iv l).toArray 3)) (.slice (some ⟨w.heap.size, 0, none⟩) l.length l.length) l := by
  refine ⟨w.heap.size, 0, l.length, rfl, fun j p hj => ?_⟩
  have h1 := heap_new' w (.cells (iv l).toArray 3)
  unfold World.cell?
  rw [h1]
  simp [iv, hj]
theorem bt_lt (n hi : Nat) : ∀ j, j < 32 → bt n hi j < 2 ^ j
  | 0, _ => by simp [bt]
  | j + 1, hj => by
    have ih := bt_lt n hi j (by omega)
    have h1 : and32 (n / 2 ^ (hi - j)) 1 ≤ 1 := by
      unfold and32
      have : n / 2 ^ (hi - j) &&& 1 ≤ 1 := Nat.and_le_right
      omega
    have h2 : 2 ^ (j + 1) = 2 * 2 ^ j := by rw [Nat.pow_succ]; omega
    simp only [bt]
    generalize bt n hi j = B at *
    generalize 2 ^ j = q at *
    generalize and32 (n / 2 ^ (hi - j)) 1 = X at *
    have a1 := Nat.mod_le (2 * B % 4294967296 + X) 4294967296
    have a2 := Nat.mod_le (2 * B) 4294967296
    omega
theorem prt_lt (n hi lo : Nat) (h : hi + 1 - lo < 32) : prt n hi lo < 2 ^ (hi + 1 - lo) := bt_lt n hi _ h
theorem list32_any (w : World) : Calls Tryd.prog 52 #[] w fun e w' => ∃ v, e = .returned v ∧ IntsAt w' v [5, 4, 3, 7, 6] ∧ GN w w' := by
  go_enter Tryd.func52, Tryd.ntmps52
  go_wp2
  go_ret
  exact ⟨_, rfl, new_ints [5, 4, 3, 7, 6] w, (GN.refl w).alloc _⟩
theorem list33_any (w : World) : Calls Tryd.prog 53 #[] w fun e w' => ∃ v, e = .returned v ∧ IntsAt w' v [5, 4, 3, 2, 6] ∧ GN w w' := by
  go_enter Tryd.func53, Tryd.ntmps53
  go_wp2
  go_ret
  exact ⟨_, rfl, new_ints [5, 4, 3, 2, 6] w, (GN.refl w).alloc _⟩
theorem list40_any (w : World) : Calls Tryd.prog 60 #[] w fun e w' => ∃ v, e = .returned v ∧ IntsAt w' v [5, 4, 3, 8, 7, 6] ∧ GN w w' := by
  go_enter Tryd.func60, Tryd.ntmps60
  go_wp2
  go_ret
  exact ⟨_, rfl, new_ints [5, 4, 3, 8, 7, 6] w, (GN.refl w).alloc _⟩
theorem list41_any (w : World) : Calls Tryd.prog 61 #[] w fun e w' => ∃ v, e = .returned v ∧ IntsAt w' v [5, 4, 3, 2, 7, 6] ∧ GN w w' := by
  go_enter Tryd.func61, Tryd.ntmps61
  go_wp2
  go_ret
  exact ⟨_, rfl, new_ints [5, 4, 3, 2, 7, 6] w, (GN.refl w).alloc _⟩
def zeroK (k x y e f im : Nat) : Nat := (bif k == 0 then (bif im == 0 then 0 else rI im 2 0 y 19) else (bif k == 1 then rI e x 3 y 7 else (bif k == 2 then rI f x 2 y 3 else (bif k == 3 then rI e x 3 y 3 else (bif k == 5 then rS e y x 3 39 else (bif k == 6 then rS f y x 2 35 else (bif k == 7 then rS e y x 3 35 else 0)))))))
def zeroN (h : Nat) : Nat := zeroK (prt h 15 13) ((8 + prt h 9 7) % 4294967296) ((8 + prt h 4 2) % 4294967296) (immN h (dnl 12 3 ++ dnl 6 2) [5, 4, 3, 7, 6] false) (immN h (dnl 12 3 ++ dnl 6 2) [5, 4, 3, 2, 6] false) (immN h (dnl 12 8 ++ dnl (-1) 0) [5, 4, 9, 8, 7, 6, 2, 3] false)
theorem zeroK_0 (x y e f im : Nat) (z0 : (im == 0) = false) : zeroK 0 x y e f im = rI im 2 0 y 19 := by unfold zeroK; rw [condT (b := 0 == 0) rfl, condF z0]
theorem zeroK_1 (x y e f im : Nat) (z0 : (im == 0) = true) : zeroK 0 x y e f im = 0 := by unfold zeroK; rw [condT (b := 0 == 0) rfl, condT z0]
theorem zeroK_2 (x y e f im : Nat) : zeroK 1 x y e f im = rI e x 3 y 7 := by unfold zeroK; rw [condF (b := 1 == 0) rfl, condT (b := 1 == 1) rfl]
theorem zeroK_3 (x y e f im : Nat) : zeroK 2 x y e f im = rI f x 2 y 3 := by unfold zeroK; rw [condF (b := 2 == 0) rfl, condF (b := 2 == 1) rfl, condT (b := 2 == 2) rfl]
theorem zeroK_4 (x y e f im : Nat) : zeroK 3 x y e f im = rI e x 3 y 3 := by unfold zeroK; rw [condF (b := 3 == 0) rfl, condF (b := 3 == 1) rfl, condF (b := 3 == 2) rfl, condT (b := 3 == 3) rfl]
theorem zeroK_5 (x y e f im : Nat) : zeroK 4 x y e f im = 0 := by unfold zeroK; rw [condF (b := 4 == 0) rfl, condF (b := 4 == 1) rfl, condF (b := 4 == 2) rfl, condF (b := 4 == 3) rfl, condF (b := 4 == 5) rfl, condF (b := 4 == 6) rfl, condF (b := 4 == 7) rfl]
theorem zeroK_6 (x y e f im : Nat) : zeroK 5 x y e f im = rS e y x 3 39 := by unfold zeroK; rw [condF (b := 5 == 0) rfl, condF (b := 5 == 1) rfl, condF (b := 5 == 2) rfl, condF (b := 5 == 3) rfl, condT (b := 5 == 5) rfl]
theorem zeroK_7 (x y e f im : Nat) : zeroK 6 x y e f im = rS f y x 2 35 := by unfold zeroK; rw [condF (b := 6 == 0) rfl, condF (b := 6 == 1) rfl, condF (b := 6 == 2) rfl, condF (b := 6 == 3) rfl, condF (b := 6 == 5) rfl, condT (b := 6 == 6) rfl]
theorem zeroK_8 (x y e f im : Nat) : zeroK 7 x y e f im = rS e y x 3 35 := by unfold zeroK; rw [condF (b := 7 == 0) rfl, condF (b := 7 == 1) rfl, condF (b := 7 == 2) rfl, condF (b := 7 == 3) rfl, condF (b := 7 == 5) rfl, condF (b := 7 == 6) rfl, condT (b := 7 == 7) rfl]
set_option maxRecDepth 100000 in
set_option maxHeartbeats 2000000 in
theorem zero_any {w0 : World} (_hT : Tab w0) (h : Nat) (hh : h < 65536) (w : World) (hg : GN w0 w) : Calls Tryd.prog 34 #[.int .u16 h] w fun e w' => e = .returned (.int .u32 (zeroN h : Nat)) ∧ GN w0 w' := by
  have hfin : zeroN h = zeroK (prt h 15 13) ((8 + prt h 9 7) % 4294967296) ((8 + prt h 4 2) % 4294967296) (immN h (dnl 12 3 ++ dnl 6 2) [5, 4, 3, 7, 6] false) (immN h (dnl 12 3 ++ dnl 6 2) [5, 4, 3, 2, 6] false) (immN h (dnl 12 8 ++ dnl (-1) 0) [5, 4, 9, 8, 7, 6, 2, 3] false) := rfl
  have hkb := prt_lt h 15 13 (by decide)
  rw [show 2 ^ (15 + 1 - 13) = 8 from rfl] at hkb
  have ex := add8 (prt h 9 7)
  have ey := add8 (prt h 4 2)
  generalize (8 + prt h 9 7) % 4294967296 = x at *
  generalize (8 + prt h 4 2) % 4294967296 = y at *
  generalize hk0 : prt h 15 13 = k at *
  generalize he0 : immN h (dnl 12 3 ++ dnl 6 2) [5, 4, 3, 7, 6] false = e at *
  generalize hf0 : immN h (dnl 12 3 ++ dnl 6 2) [5, 4, 3, 2, 6] false = f at *
  generalize hi0 : immN h (dnl 12 8 ++ dnl (-1) 0) [5, 4, 9, 8, 7, 6, 2, 3] false = im at *
  obtain ⟨ans, hans⟩ : ∃ a, zeroN h = a := ⟨_, rfl⟩
  rw [hans]
  rw [hans] at hfin
  clear hans
  have Hfin := hide hfin.symm
  clear hfin
  go_enter Tryd.func34, Tryd.ntmps34
  go_upto_region 3 with (first | (go_at_call 33; refine (rbits_any _ _ _ (by assumption) (by decide) (by decide) _).mono ?_; rintro _ _ ⟨rfl, hq⟩; replace hg := GN.trans hg hq; (try replace hA := IntsAt.gn hA hq); (try replace hD := IntsAt.gn hD hq); (try replace hB := IntsAt.gn hB hq); (try replace hL := IntsAt.gn hL hq); clear hq))
  go_wp2_with fail
  refine (rows_any 12 10 6 5 3 2 (by decide) (by decide) (by decide) (by decide) (by decide) (by decide) (by decide) (by decide) (by decide) _).mono ?_
  rintro _ _ ⟨vhA, rfl, hA, hq⟩
  replace hg := GN.trans hg hq
  (try replace hD := IntsAt.gn hD hq)
  (try replace hL := IntsAt.gn hL hq)
  clear hq
  go_wp2_with fail
  refine (list32_any _).mono ?_
  rintro _ _ ⟨vB, rfl, hB, hq⟩
  replace hg := GN.trans hg hq
  (try replace hA := IntsAt.gn hA hq)
  (try replace hD := IntsAt.gn hD hq)
  (try replace hL := IntsAt.gn hL hq)
  clear hq
  go_wp2_with fail
  refine (imm_any _ (by assumption) _ _ (dnl 12 3 ++ dnl 6 2) [5, 4, 3, 7, 6] false (by decide) (by decide) (by decide) _ hg hA hB).mono ?_
  rintro _ _ ⟨rfl, hq⟩
  replace hg := GN.trans hg hq
  (try replace hA := IntsAt.gn hA hq)
  (try replace hD := IntsAt.gn hD hq)
  (try replace hL := IntsAt.gn hL hq)
  clear hq
  go_wp2_with fail
  refine (list33_any _).mono ?_
  rintro _ _ ⟨vB, rfl, hB, hq⟩
  replace hg := GN.trans hg hq
  (try replace hA := IntsAt.gn hA hq)
  (try replace hD := IntsAt.gn hD hq)
  (try replace hL := IntsAt.gn hL hq)
  clear hq
  go_wp2_with fail
  refine (imm_any _ (by assumption) _ _ (dnl 12 3 ++ dnl 6 2) [5, 4, 3, 2, 6] false (by decide) (by decide) (by decide) _ hg hA hB).mono ?_
  rintro _ _ ⟨rfl, hq⟩
  replace hg := GN.trans hg hq
  (try replace hA := IntsAt.gn hA hq)
  (try replace hD := IntsAt.gn hD hq)
  (try replace hL := IntsAt.gn hL hq)
  clear hq
  go_upto_region 7 with (first | (go_at_call 33; refine (rbits_any _ _ _ (by assumption) (by decide) (by decide) _).mono ?_; rintro _ _ ⟨rfl, hq⟩; replace hg := GN.trans hg hq; (try replace hA := IntsAt.gn hA hq); (try replace hD := IntsAt.gn hD hq); (try replace hB := IntsAt.gn hB hq); (try replace hL := IntsAt.gn hL hq); clear hq))
  clear hk0 he0 hf0
  have hkn : k = 0 ∨ k = 1 ∨ k = 2 ∨ k = 3 ∨ k = 4 ∨ k = 5 ∨ k = 6 ∨ k = 7 := by omega
  clear hkb
  rcases hkn with rfl | rfl | rfl | rfl | rfl | rfl | rfl | rfl
  · cases hz0 : (im == 0)
    · have Hz0 := hide hz0
      have zi0 : (((im : Nat) : Int) == 0) = false := by
        have := natBEq (im) 0
        rw [hz0] at this
        exact this
      clear hz0
      go_wp2_with fail
      refine (rows_any 12 5 (-1) 0 8 0 (by decide) (by decide) (by decide) (by decide) (by decide) (by decide) (by decide) (by decide) (by decide) _).mono ?_
      rintro _ _ ⟨vhD, rfl, hD, hq⟩
      replace hg := GN.trans hg hq
      (try replace hA := IntsAt.gn hA hq)
      (try replace hL := IntsAt.gn hL hq)
      clear hq
      go_wp2_with fail
      refine (imm_any _ (by assumption) _ _ (dnl 12 8 ++ dnl (-1) 0) [5, 4, 9, 8, 7, 6, 2, 3] false (by decide) (by decide) (by decide) _ (GN.alloc hg _) (IntsAt.gn hD (GN.alloc (GN.refl _) _)) (new_ints [5, 4, 9, 8, 7, 6, 2, 3] _)).mono ?_
      rintro _ _ ⟨rfl, hq⟩
      replace hq := GN.trans (GN.alloc (GN.refl _) _) hq
      replace hg := GN.trans hg hq
      (try replace hA := IntsAt.gn hA hq)
      (try replace hD := IntsAt.gn hD hq)
      (try replace hL := IntsAt.gn hL hq)
      clear hq
      go_wp2_with (first | (go_at_call 54; refine (rformI_any _ _ _ _ _ _).mono ?_; rintro _ _ ⟨rfl, hq⟩; replace hg := GN.trans hg hq; (try replace hA := IntsAt.gn hA hq); (try replace hD := IntsAt.gn hD hq); (try replace hB := IntsAt.gn hB hq); (try replace hL := IntsAt.gn hL hq); clear hq))
      go_ret
      exact ⟨congrArg (fun x : Nat => Ending.returned (Value.int .u32 (x : Int))) ((zeroK_0 _ _ _ _ _ (unhide Hz0)).symm.trans (unhide Hfin)), hg⟩
    · have Hz0 := hide hz0
      have zi0 : (((im : Nat) : Int) == 0) = true := by
        have := natBEq (im) 0
        rw [hz0] at this
        exact this
      clear hz0
      go_wp2_with fail
      refine (rows_any 12 5 (-1) 0 8 0 (by decide) (by decide) (by decide) (by decide) (by decide) (by decide) (by decide) (by decide) (by decide) _).mono ?_
      rintro _ _ ⟨vhD, rfl, hD, hq⟩
      replace hg := GN.trans hg hq
      (try replace hA := IntsAt.gn hA hq)
      (try replace hL := IntsAt.gn hL hq)
      clear hq
      go_wp2_with fail
      refine (imm_any _ (by assumption) _ _ (dnl 12 8 ++ dnl (-1) 0) [5, 4, 9, 8, 7, 6, 2, 3] false (by decide) (by decide) (by decide) _ (GN.alloc hg _) (IntsAt.gn hD (GN.alloc (GN.refl _) _)) (new_ints [5, 4, 9, 8, 7, 6, 2, 3] _)).mono ?_
      rintro _ _ ⟨rfl, hq⟩
      replace hq := GN.trans (GN.alloc (GN.refl _) _) hq
      replace hg := GN.trans hg hq
      (try replace hA := IntsAt.gn hA hq)
      (try replace hD := IntsAt.gn hD hq)
      (try replace hL := IntsAt.gn hL hq)
      clear hq
      go_wp2_with (first | (go_at_call 54; refine (rformI_any _ _ _ _ _ _).mono ?_; rintro _ _ ⟨rfl, hq⟩; replace hg := GN.trans hg hq; (try replace hA := IntsAt.gn hA hq); (try replace hD := IntsAt.gn hD hq); (try replace hB := IntsAt.gn hB hq); (try replace hL := IntsAt.gn hL hq); clear hq))
      go_ret
      exact ⟨congrArg (fun x : Nat => Ending.returned (Value.int .u32 (x : Int))) ((zeroK_1 _ _ _ _ _ (unhide Hz0)).symm.trans (unhide Hfin)), hg⟩
  · go_wp2_with (first | (go_at_call 54; refine (rformI_any _ _ _ _ _ _).mono ?_; rintro _ _ ⟨rfl, hq⟩; replace hg := GN.trans hg hq; (try replace hA := IntsAt.gn hA hq); (try replace hD := IntsAt.gn hD hq); (try replace hB := IntsAt.gn hB hq); (try replace hL := IntsAt.gn hL hq); clear hq) | (go_at_call 55; refine (rformS_any _ _ _ _ _ _).mono ?_; rintro _ _ ⟨rfl, hq⟩; replace hg := GN.trans hg hq; (try replace hA := IntsAt.gn hA hq); (try replace hD := IntsAt.gn hD hq); (try replace hB := IntsAt.gn hB hq); (try replace hL := IntsAt.gn hL hq); clear hq))
    go_ret
    exact ⟨congrArg (fun x : Nat => Ending.returned (Value.int .u32 (x : Int))) ((zeroK_2 _ _ _ _ _).symm.trans (unhide Hfin)), hg⟩
  · go_wp2_with (first | (go_at_call 54; refine (rformI_any _ _ _ _ _ _).mono ?_; rintro _ _ ⟨rfl, hq⟩; replace hg := GN.trans hg hq; (try replace hA := IntsAt.gn hA hq); (try replace hD := IntsAt.gn hD hq); (try replace hB := IntsAt.gn hB hq); (try replace hL := IntsAt.gn hL hq); clear hq) | (go_at_call 55; refine (rformS_any _ _ _ _ _ _).mono ?_; rintro _ _ ⟨rfl, hq⟩; replace hg := GN.trans hg hq; (try replace hA := IntsAt.gn hA hq); (try replace hD := IntsAt.gn hD hq); (try replace hB := IntsAt.gn hB hq); (try replace hL := IntsAt.gn hL hq); clear hq))
    go_ret
    exact ⟨congrArg (fun x : Nat => Ending.returned (Value.int .u32 (x : Int))) ((zeroK_3 _ _ _ _ _).symm.trans (unhide Hfin)), hg⟩
  · go_wp2_with (first | (go_at_call 54; refine (rformI_any _ _ _ _ _ _).mono ?_; rintro _ _ ⟨rfl, hq⟩; replace hg := GN.trans hg hq; (try replace hA := IntsAt.gn hA hq); (try replace hD := IntsAt.gn hD hq); (try replace hB := IntsAt.gn hB hq); (try replace hL := IntsAt.gn hL hq); clear hq) | (go_at_call 55; refine (rformS_any _ _ _ _ _ _).mono ?_; rintro _ _ ⟨rfl, hq⟩; replace hg := GN.trans hg hq; (try replace hA := IntsAt.gn hA hq); (try replace hD := IntsAt.gn hD hq); (try replace hB := IntsAt.gn hB hq); (try replace hL := IntsAt.gn hL hq); clear hq))
    go_ret
    exact ⟨congrArg (fun x : Nat => Ending.returned (Value.int .u32 (x : Int))) ((zeroK_4 _ _ _ _ _).symm.trans (unhide Hfin)), hg⟩
  · go_wp2_with (first | (go_at_call 54; refine (rformI_any _ _ _ _ _ _).mono ?_; rintro _ _ ⟨rfl, hq⟩; replace hg := GN.trans hg hq; (try replace hA := IntsAt.gn hA hq); (try replace hD := IntsAt.gn hD hq); (try replace hB := IntsAt.gn hB hq); (try replace hL := IntsAt.gn hL hq); clear hq) | (go_at_call 55; refine (rformS_any _ _ _ _ _ _).mono ?_; rintro _ _ ⟨rfl, hq⟩; replace hg := GN.trans hg hq; (try replace hA := IntsAt.gn hA hq); (try replace hD := IntsAt.gn hD hq); (try replace hB := IntsAt.gn hB hq); (try replace hL := IntsAt.gn hL hq); clear hq))
    go_ret
    exact ⟨congrArg (fun x : Nat => Ending.returned (Value.int .u32 (x : Int))) ((zeroK_5 _ _ _ _ _).symm.trans (unhide Hfin)), hg⟩
  · go_wp2_with (first | (go_at_call 54; refine (rformI_any _ _ _ _ _ _).mono ?_; rintro _ _ ⟨rfl, hq⟩; replace hg := GN.trans hg hq; (try replace hA := IntsAt.gn hA hq); (try replace hD := IntsAt.gn hD hq); (try replace hB := IntsAt.gn hB hq); (try replace hL := IntsAt.gn hL hq); clear hq) | (go_at_call 55; refine (rformS_any _ _ _ _ _ _).mono ?_; rintro _ _ ⟨rfl, hq⟩; replace hg := GN.trans hg hq; (try replace hA := IntsAt.gn hA hq); (try replace hD := IntsAt.gn hD hq); (try replace hB := IntsAt.gn hB hq); (try replace hL := IntsAt.gn hL hq); clear hq))
    go_ret
    exact ⟨congrArg (fun x : Nat => Ending.returned (Value.int .u32 (x : Int))) ((zeroK_6 _ _ _ _ _).symm.trans (unhide Hfin)), hg⟩
  · go_wp2_with (first | (go_at_call 54; refine (rformI_any _ _ _ _ _ _).mono ?_; rintro _ _ ⟨rfl, hq⟩; replace hg := GN.trans hg hq; (try replace hA := IntsAt.gn hA hq); (try replace hD := IntsAt.gn hD hq); (try replace hB := IntsAt.gn hB hq); (try replace hL := IntsAt.gn hL hq); clear hq) | (go_at_call 55; refine (rformS_any _ _ _ _ _ _).mono ?_; rintro _ _ ⟨rfl, hq⟩; replace hg := GN.trans hg hq; (try replace hA := IntsAt.gn hA hq); (try replace hD := IntsAt.gn hD hq); (try replace hB := IntsAt.gn hB hq); (try replace hL := IntsAt.gn hL hq); clear hq))
    go_ret
    exact ⟨congrArg (fun x : Nat => Ending.returned (Value.int .u32 (x : Int))) ((zeroK_7 _ _ _ _ _).symm.trans (unhide Hfin)), hg⟩
  · go_wp2_with (first | (go_at_call 54; refine (rformI_any _ _ _ _ _ _).mono ?_; rintro _ _ ⟨rfl, hq⟩; replace hg := GN.trans hg hq; (try replace hA := IntsAt.gn hA hq); (try replace hD := IntsAt.gn hD hq); (try replace hB := IntsAt.gn hB hq); (try replace hL := IntsAt.gn hL hq); clear hq) | (go_at_call 55; refine (rformS_any _ _ _ _ _ _).mono ?_; rintro _ _ ⟨rfl, hq⟩; replace hg := GN.trans hg hq; (try replace hA := IntsAt.gn hA hq); (try replace hD := IntsAt.gn hD hq); (try replace hB := IntsAt.gn hB hq); (try replace hL := IntsAt.gn hL hq); clear hq))
    go_ret
    exact ⟨congrArg (fun x : Nat => Ending.returned (Value.int .u32 (x : Int))) ((zeroK_8 _ _ _ _ _).symm.trans (unhide Hfin)), hg⟩
end Go.Proofs.YtblbgalpkodibaaDoor
