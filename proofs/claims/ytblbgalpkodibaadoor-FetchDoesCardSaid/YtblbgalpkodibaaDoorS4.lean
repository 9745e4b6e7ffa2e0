/- Layer 4: what a half stands for: the second and third kinds. -/
import Derived.Test.YtblbgalpkodibaaDoorS3
namespace Go.Proofs.YtblbgalpkodibaaDoor
open Go.RowKit

def secondK (h k d six i away x g lu : Nat) : Nat := (bif k == 0 then nI i d 0 d 19 else (bif k == 1 then (bif d != 0 then nI i d 0 d 27 else 0) else (bif k == 2 then nI i 0 0 d 19 else (bif k == 3 then (bif six == 0 then 0 else (bif d == 2 then nI (putN six (row 4) true) 2 0 2 19 else lu)) else (bif k == 4 then workN h six else (bif k == 5 then nJ (putN (fld h 12 2) (row 5) true) 0 111 else (bif k == 6 then nB away 0 x g 99 else (bif k == 7 then nB away 0 x g 99 else 0))))))))
def secondN (h : Nat) : Nat := secondK h (fld h 15 13) (fld h 11 7) (or32 (fld h 12 12 * 32 % 4294967296) (fld h 6 2)) (putN (or32 (fld h 12 12 * 32 % 4294967296) (fld h 6 2)) (row 3) true) (putN (or32 (fld h 12 10 * 32 % 4294967296) (fld h 6 2)) (row 6) true) ((8 + fld h 9 7) % 4294967296) (fld h 13 13) (or32 (or32 (putN (or32 (fld h 12 12 * 32 % 4294967296) (fld h 6 2)) (row 3) true * 4096 % 4294967296) (fld h 11 7 * 128 % 4294967296)) 55)
theorem secondK_0 (h d six i away x g lu : Nat) : secondK h 0 d six i away x g lu = nI i d 0 d 19 := by unfold secondK; rw [condT (b := 0 == 0) rfl]
theorem secondK_1 (h d six i away x g lu : Nat) (z0 : (d != 0) = false) : secondK h 1 d six i away x g lu = 0 := by unfold secondK; rw [condF (b := 1 == 0) rfl, condT (b := 1 == 1) rfl, condF z0]
theorem secondK_2 (h d six i away x g lu : Nat) (z0 : (d != 0) = true) : secondK h 1 d six i away x g lu = nI i d 0 d 27 := by unfold secondK; rw [condF (b := 1 == 0) rfl, condT (b := 1 == 1) rfl, condT z0]
theorem secondK_3 (h d six i away x g lu : Nat) : secondK h 2 d six i away x g lu = nI i 0 0 d 19 := by unfold secondK; rw [condF (b := 2 == 0) rfl, condF (b := 2 == 1) rfl, condT (b := 2 == 2) rfl]
theorem secondK_4 (h d six i away x g lu : Nat) (z0 : (six == 0) = false) (z1 : (d == 2) = false) : secondK h 3 d six i away x g lu = lu := by unfold secondK; rw [condF (b := 3 == 0) rfl, condF (b := 3 == 1) rfl, condF (b := 3 == 2) rfl, condT (b := 3 == 3) rfl, condF z0, condF z1]
theorem secondK_5 (h d six i away x g lu : Nat) (z0 : (six == 0) = false) (z1 : (d == 2) = true) : secondK h 3 d six i away x g lu = nI (putN six (row 4) true) 2 0 2 19 := by unfold secondK; rw [condF (b := 3 == 0) rfl, condF (b := 3 == 1) rfl, condF (b := 3 == 2) rfl, condT (b := 3 == 3) rfl, condF z0, condT z1]
theorem secondK_6 (h d six i away x g lu : Nat) (z0 : (six == 0) = true) : secondK h 3 d six i away x g lu = 0 := by unfold secondK; rw [condF (b := 3 == 0) rfl, condF (b := 3 == 1) rfl, condF (b := 3 == 2) rfl, condT (b := 3 == 3) rfl, condT z0]
theorem secondK_7 (h d six i away x g lu : Nat) : secondK h 4 d six i away x g lu = workN h six := by unfold secondK; rw [condF (b := 4 == 0) rfl, condF (b := 4 == 1) rfl, condF (b := 4 == 2) rfl, condF (b := 4 == 3) rfl, condT (b := 4 == 4) rfl]
theorem secondK_8 (h d six i away x g lu : Nat) : secondK h 5 d six i away x g lu = nJ (putN (fld h 12 2) (row 5) true) 0 111 := by unfold secondK; rw [condF (b := 5 == 0) rfl, condF (b := 5 == 1) rfl, condF (b := 5 == 2) rfl, condF (b := 5 == 3) rfl, condF (b := 5 == 4) rfl, condT (b := 5 == 5) rfl]
theorem secondK_9 (h d six i away x g lu : Nat) : secondK h 6 d six i away x g lu = nB away 0 x g 99 := by unfold secondK; rw [condF (b := 6 == 0) rfl, condF (b := 6 == 1) rfl, condF (b := 6 == 2) rfl, condF (b := 6 == 3) rfl, condF (b := 6 == 4) rfl, condF (b := 6 == 5) rfl, condT (b := 6 == 6) rfl]
theorem secondK_10 (h d six i away x g lu : Nat) : secondK h 7 d six i away x g lu = nB away 0 x g 99 := by unfold secondK; rw [condF (b := 7 == 0) rfl, condF (b := 7 == 1) rfl, condF (b := 7 == 2) rfl, condF (b := 7 == 3) rfl, condF (b := 7 == 4) rfl, condF (b := 7 == 5) rfl, condF (b := 7 == 6) rfl, condT (b := 7 == 7) rfl]
set_option maxRecDepth 100000 in
set_option maxHeartbeats 2000000 in
theorem second_any {w0 : World} (hT : Tab w0) (h : Nat) (hh : h < 65536) (w : World) (hg : GN w0 w) : Calls Tryd.prog 47 #[.int .u16 h] w fun e w' => e = .returned (.int .u32 (secondN h : Nat)) ∧ GN w0 w' := by
  have hfin : secondN h = secondK h (fld h 15 13) (fld h 11 7) (or32 (fld h 12 12 * 32 % 4294967296) (fld h 6 2)) (putN (or32 (fld h 12 12 * 32 % 4294967296) (fld h 6 2)) (row 3) true) (putN (or32 (fld h 12 10 * 32 % 4294967296) (fld h 6 2)) (row 6) true) ((8 + fld h 9 7) % 4294967296) (fld h 13 13) (or32 (or32 (putN (or32 (fld h 12 12 * 32 % 4294967296) (fld h 6 2)) (row 3) true * 4096 % 4294967296) (fld h 11 7 * 128 % 4294967296)) 55) := rfl
  have hkb := fld_lt h 15 13
  rw [show 2 ^ (15 - 13 + 1) = 8 from rfl] at hkb
  have ex := add8 (fld h 9 7)
  have e1 := or32i (fld h 12 12 * 32 % 4294967296) (fld h 6 2)
  rw [← shl32 (fld h 12 12) 32, Int.cast_ofNat_Int] at e1
  have e2 := or32i (fld h 12 10 * 32 % 4294967296) (fld h 6 2)
  rw [← shl32 (fld h 12 10) 32, Int.cast_ofNat_Int] at e2
  generalize (8 + fld h 9 7) % 4294967296 = x at *
  generalize or32 (fld h 12 12 * 32 % 4294967296) (fld h 6 2) = six at *
  generalize or32 (fld h 12 10 * 32 % 4294967296) (fld h 6 2) = aw at *
  have e3 := or32i (putN six (row 3) true * 4096 % 4294967296) (fld h 11 7 * 128 % 4294967296)
  rw [← shl32 (putN six (row 3) true) 4096, ← shl32 (fld h 11 7) 128, Int.cast_ofNat_Int, Int.cast_ofNat_Int] at e3
  have e4 := or32i (or32 (putN six (row 3) true * 4096 % 4294967296) (fld h 11 7 * 128 % 4294967296)) 55
  rw [Int.cast_ofNat_Int] at e4
  generalize or32 (or32 (putN six (row 3) true * 4096 % 4294967296) (fld h 11 7 * 128 % 4294967296)) 55 = lu at *
  generalize or32 (putN six (row 3) true * 4096 % 4294967296) (fld h 11 7 * 128 % 4294967296) = lv at *
  generalize hk0 : fld h 15 13 = k at *
  generalize hd0 : fld h 11 7 = d at *
  generalize hg0 : fld h 13 13 = g at *
  obtain ⟨ans, hans⟩ : ∃ a, secondN h = a := ⟨_, rfl⟩
  rw [hans]
  rw [hans] at hfin
  clear hans
  have Hfin := hide hfin.symm
  clear hfin
  go_enter Tryd.func47, Tryd.ntmps47
  go_upto_region 6 with (first | (go_at_call 62; refine (field_any _ _ _ (by assumption) (by decide) (by decide) _).mono ?_; rintro _ _ ⟨rfl, hq⟩; replace hg := GN.trans hg hq; clear hq) | (go_at_call 63; refine (put_any hT _ _ _ (by decide) _ hg).mono ?_; rintro _ _ ⟨rfl, hq⟩; replace hg := GN.trans hg hq; clear hq))
  clear hk0
  have hkn : k = 0 ∨ k = 1 ∨ k = 2 ∨ k = 3 ∨ k = 4 ∨ k = 5 ∨ k = 6 ∨ k = 7 := by omega
  clear hkb
  rcases hkn with rfl | rfl | rfl | rfl | rfl | rfl | rfl | rfl
  · go_wp2_with (first | (go_at_call 62; refine (field_any _ _ _ (by assumption) (by decide) (by decide) _).mono ?_; rintro _ _ ⟨rfl, hq⟩; replace hg := GN.trans hg hq; clear hq) | (go_at_call 63; refine (put_any hT _ _ _ (by decide) _ hg).mono ?_; rintro _ _ ⟨rfl, hq⟩; replace hg := GN.trans hg hq; clear hq) | (go_at_call 64; refine (formI_any _ _ _ _ _ _).mono ?_; rintro _ _ ⟨rfl, hq⟩; replace hg := GN.trans hg hq; clear hq) | (go_at_call 66; refine (work_any hT _ _ (by assumption) _ hg).mono ?_; rintro _ _ ⟨rfl, hg⟩) | (go_at_call 67; refine (formJ_any _ _ _ _).mono ?_; rintro _ _ ⟨rfl, hq⟩; replace hg := GN.trans hg hq; clear hq) | (go_at_call 68; refine (formB_any _ _ _ _ _ _).mono ?_; rintro _ _ ⟨rfl, hq⟩; replace hg := GN.trans hg hq; clear hq))
    go_ret
    exact ⟨congrArg (fun x : Nat => Ending.returned (Value.int .u32 (x : Int))) ((secondK_0 _ _ _ _ _ _ _ _).symm.trans (unhide Hfin)), hg⟩
  · cases hz0 : (d != 0)
    · have Hz0 := hide hz0
      have zi0 : (((d : Nat) : Int) != 0) = false := by
        have := natBNe (d) 0
        rw [hz0] at this
        exact this
      clear hz0
      go_wp2_with (first | (go_at_call 62; refine (field_any _ _ _ (by assumption) (by decide) (by decide) _).mono ?_; rintro _ _ ⟨rfl, hq⟩; replace hg := GN.trans hg hq; clear hq) | (go_at_call 63; refine (put_any hT _ _ _ (by decide) _ hg).mono ?_; rintro _ _ ⟨rfl, hq⟩; replace hg := GN.trans hg hq; clear hq) | (go_at_call 64; refine (formI_any _ _ _ _ _ _).mono ?_; rintro _ _ ⟨rfl, hq⟩; replace hg := GN.trans hg hq; clear hq) | (go_at_call 66; refine (work_any hT _ _ (by assumption) _ hg).mono ?_; rintro _ _ ⟨rfl, hg⟩) | (go_at_call 67; refine (formJ_any _ _ _ _).mono ?_; rintro _ _ ⟨rfl, hq⟩; replace hg := GN.trans hg hq; clear hq) | (go_at_call 68; refine (formB_any _ _ _ _ _ _).mono ?_; rintro _ _ ⟨rfl, hq⟩; replace hg := GN.trans hg hq; clear hq))
      go_ret
      exact ⟨congrArg (fun x : Nat => Ending.returned (Value.int .u32 (x : Int))) ((secondK_1 _ _ _ _ _ _ _ _ (unhide Hz0)).symm.trans (unhide Hfin)), hg⟩
    · have Hz0 := hide hz0
      have zi0 : (((d : Nat) : Int) != 0) = true := by
        have := natBNe (d) 0
        rw [hz0] at this
        exact this
      clear hz0
      go_wp2_with (first | (go_at_call 62; refine (field_any _ _ _ (by assumption) (by decide) (by decide) _).mono ?_; rintro _ _ ⟨rfl, hq⟩; replace hg := GN.trans hg hq; clear hq) | (go_at_call 63; refine (put_any hT _ _ _ (by decide) _ hg).mono ?_; rintro _ _ ⟨rfl, hq⟩; replace hg := GN.trans hg hq; clear hq) | (go_at_call 64; refine (formI_any _ _ _ _ _ _).mono ?_; rintro _ _ ⟨rfl, hq⟩; replace hg := GN.trans hg hq; clear hq) | (go_at_call 66; refine (work_any hT _ _ (by assumption) _ hg).mono ?_; rintro _ _ ⟨rfl, hg⟩) | (go_at_call 67; refine (formJ_any _ _ _ _).mono ?_; rintro _ _ ⟨rfl, hq⟩; replace hg := GN.trans hg hq; clear hq) | (go_at_call 68; refine (formB_any _ _ _ _ _ _).mono ?_; rintro _ _ ⟨rfl, hq⟩; replace hg := GN.trans hg hq; clear hq))
      go_ret
      exact ⟨congrArg (fun x : Nat => Ending.returned (Value.int .u32 (x : Int))) ((secondK_2 _ _ _ _ _ _ _ _ (unhide Hz0)).symm.trans (unhide Hfin)), hg⟩
  · go_wp2_with (first | (go_at_call 62; refine (field_any _ _ _ (by assumption) (by decide) (by decide) _).mono ?_; rintro _ _ ⟨rfl, hq⟩; replace hg := GN.trans hg hq; clear hq) | (go_at_call 63; refine (put_any hT _ _ _ (by decide) _ hg).mono ?_; rintro _ _ ⟨rfl, hq⟩; replace hg := GN.trans hg hq; clear hq) | (go_at_call 64; refine (formI_any _ _ _ _ _ _).mono ?_; rintro _ _ ⟨rfl, hq⟩; replace hg := GN.trans hg hq; clear hq) | (go_at_call 66; refine (work_any hT _ _ (by assumption) _ hg).mono ?_; rintro _ _ ⟨rfl, hg⟩) | (go_at_call 67; refine (formJ_any _ _ _ _).mono ?_; rintro _ _ ⟨rfl, hq⟩; replace hg := GN.trans hg hq; clear hq) | (go_at_call 68; refine (formB_any _ _ _ _ _ _).mono ?_; rintro _ _ ⟨rfl, hq⟩; replace hg := GN.trans hg hq; clear hq))
    go_ret
    exact ⟨congrArg (fun x : Nat => Ending.returned (Value.int .u32 (x : Int))) ((secondK_3 _ _ _ _ _ _ _ _).symm.trans (unhide Hfin)), hg⟩
  · cases hz0 : (six == 0)
    · have Hz0 := hide hz0
      have zi0 : (((six : Nat) : Int) == 0) = false := by
        have := natBEq (six) 0
        rw [hz0] at this
        exact this
      clear hz0
      cases hz1 : (d == 2)
      · have Hz1 := hide hz1
        have zi1 : (((d : Nat) : Int) == 2) = false := by
          have := natBEq (d) 2
          rw [hz1] at this
          exact this
        clear hz1
        go_wp2_with (first | (go_at_call 62; refine (field_any _ _ _ (by assumption) (by decide) (by decide) _).mono ?_; rintro _ _ ⟨rfl, hq⟩; replace hg := GN.trans hg hq; clear hq) | (go_at_call 63; refine (put_any hT _ _ _ (by decide) _ hg).mono ?_; rintro _ _ ⟨rfl, hq⟩; replace hg := GN.trans hg hq; clear hq) | (go_at_call 64; refine (formI_any _ _ _ _ _ _).mono ?_; rintro _ _ ⟨rfl, hq⟩; replace hg := GN.trans hg hq; clear hq) | (go_at_call 66; refine (work_any hT _ _ (by assumption) _ hg).mono ?_; rintro _ _ ⟨rfl, hg⟩) | (go_at_call 67; refine (formJ_any _ _ _ _).mono ?_; rintro _ _ ⟨rfl, hq⟩; replace hg := GN.trans hg hq; clear hq) | (go_at_call 68; refine (formB_any _ _ _ _ _ _).mono ?_; rintro _ _ ⟨rfl, hq⟩; replace hg := GN.trans hg hq; clear hq))
        go_ret
        exact ⟨congrArg (fun x : Nat => Ending.returned (Value.int .u32 (x : Int))) ((secondK_4 _ _ _ _ _ _ _ _ (unhide Hz0) (unhide Hz1)).symm.trans (unhide Hfin)), hg⟩
      · have Hz1 := hide hz1
        have zi1 : (((d : Nat) : Int) == 2) = true := by
          have := natBEq (d) 2
          rw [hz1] at this
          exact this
        clear hz1
        go_wp2_with (first | (go_at_call 62; refine (field_any _ _ _ (by assumption) (by decide) (by decide) _).mono ?_; rintro _ _ ⟨rfl, hq⟩; replace hg := GN.trans hg hq; clear hq) | (go_at_call 63; refine (put_any hT _ _ _ (by decide) _ hg).mono ?_; rintro _ _ ⟨rfl, hq⟩; replace hg := GN.trans hg hq; clear hq) | (go_at_call 64; refine (formI_any _ _ _ _ _ _).mono ?_; rintro _ _ ⟨rfl, hq⟩; replace hg := GN.trans hg hq; clear hq) | (go_at_call 66; refine (work_any hT _ _ (by assumption) _ hg).mono ?_; rintro _ _ ⟨rfl, hg⟩) | (go_at_call 67; refine (formJ_any _ _ _ _).mono ?_; rintro _ _ ⟨rfl, hq⟩; replace hg := GN.trans hg hq; clear hq) | (go_at_call 68; refine (formB_any _ _ _ _ _ _).mono ?_; rintro _ _ ⟨rfl, hq⟩; replace hg := GN.trans hg hq; clear hq))
        go_ret
        exact ⟨congrArg (fun x : Nat => Ending.returned (Value.int .u32 (x : Int))) ((secondK_5 _ _ _ _ _ _ _ _ (unhide Hz0) (unhide Hz1)).symm.trans (unhide Hfin)), hg⟩
    · have Hz0 := hide hz0
      have zi0 : (((six : Nat) : Int) == 0) = true := by
        have := natBEq (six) 0
        rw [hz0] at this
        exact this
      clear hz0
      go_wp2_with (first | (go_at_call 62; refine (field_any _ _ _ (by assumption) (by decide) (by decide) _).mono ?_; rintro _ _ ⟨rfl, hq⟩; replace hg := GN.trans hg hq; clear hq) | (go_at_call 63; refine (put_any hT _ _ _ (by decide) _ hg).mono ?_; rintro _ _ ⟨rfl, hq⟩; replace hg := GN.trans hg hq; clear hq) | (go_at_call 64; refine (formI_any _ _ _ _ _ _).mono ?_; rintro _ _ ⟨rfl, hq⟩; replace hg := GN.trans hg hq; clear hq) | (go_at_call 66; refine (work_any hT _ _ (by assumption) _ hg).mono ?_; rintro _ _ ⟨rfl, hg⟩) | (go_at_call 67; refine (formJ_any _ _ _ _).mono ?_; rintro _ _ ⟨rfl, hq⟩; replace hg := GN.trans hg hq; clear hq) | (go_at_call 68; refine (formB_any _ _ _ _ _ _).mono ?_; rintro _ _ ⟨rfl, hq⟩; replace hg := GN.trans hg hq; clear hq))
      go_ret
      exact ⟨congrArg (fun x : Nat => Ending.returned (Value.int .u32 (x : Int))) ((secondK_6 _ _ _ _ _ _ _ _ (unhide Hz0)).symm.trans (unhide Hfin)), hg⟩
  · go_wp2_with (first | (go_at_call 62; refine (field_any _ _ _ (by assumption) (by decide) (by decide) _).mono ?_; rintro _ _ ⟨rfl, hq⟩; replace hg := GN.trans hg hq; clear hq) | (go_at_call 63; refine (put_any hT _ _ _ (by decide) _ hg).mono ?_; rintro _ _ ⟨rfl, hq⟩; replace hg := GN.trans hg hq; clear hq) | (go_at_call 64; refine (formI_any _ _ _ _ _ _).mono ?_; rintro _ _ ⟨rfl, hq⟩; replace hg := GN.trans hg hq; clear hq) | (go_at_call 66; refine (work_any hT _ _ (by assumption) _ hg).mono ?_; rintro _ _ ⟨rfl, hg⟩) | (go_at_call 67; refine (formJ_any _ _ _ _).mono ?_; rintro _ _ ⟨rfl, hq⟩; replace hg := GN.trans hg hq; clear hq) | (go_at_call 68; refine (formB_any _ _ _ _ _ _).mono ?_; rintro _ _ ⟨rfl, hq⟩; replace hg := GN.trans hg hq; clear hq))
    go_ret
    exact ⟨congrArg (fun x : Nat => Ending.returned (Value.int .u32 (x : Int))) ((secondK_7 _ _ _ _ _ _ _ _).symm.trans (unhide Hfin)), hg⟩
  · go_wp2_with (first | (go_at_call 62; refine (field_any _ _ _ (by assumption) (by decide) (by decide) _).mono ?_; rintro _ _ ⟨rfl, hq⟩; replace hg := GN.trans hg hq; clear hq) | (go_at_call 63; refine (put_any hT _ _ _ (by decide) _ hg).mono ?_; rintro _ _ ⟨rfl, hq⟩; replace hg := GN.trans hg hq; clear hq) | (go_at_call 64; refine (formI_any _ _ _ _ _ _).mono ?_; rintro _ _ ⟨rfl, hq⟩; replace hg := GN.trans hg hq; clear hq) | (go_at_call 66; refine (work_any hT _ _ (by assumption) _ hg).mono ?_; rintro _ _ ⟨rfl, hg⟩) | (go_at_call 67; refine (formJ_any _ _ _ _).mono ?_; rintro _ _ ⟨rfl, hq⟩; replace hg := GN.trans hg hq; clear hq) | (go_at_call 68; refine (formB_any _ _ _ _ _ _).mono ?_; rintro _ _ ⟨rfl, hq⟩; replace hg := GN.trans hg hq; clear hq))
    go_ret
    exact ⟨congrArg (fun x : Nat => Ending.returned (Value.int .u32 (x : Int))) ((secondK_8 _ _ _ _ _ _ _ _).symm.trans (unhide Hfin)), hg⟩
  · go_wp2_with (first | (go_at_call 62; refine (field_any _ _ _ (by assumption) (by decide) (by decide) _).mono ?_; rintro _ _ ⟨rfl, hq⟩; replace hg := GN.trans hg hq; clear hq) | (go_at_call 63; refine (put_any hT _ _ _ (by decide) _ hg).mono ?_; rintro _ _ ⟨rfl, hq⟩; replace hg := GN.trans hg hq; clear hq) | (go_at_call 64; refine (formI_any _ _ _ _ _ _).mono ?_; rintro _ _ ⟨rfl, hq⟩; replace hg := GN.trans hg hq; clear hq) | (go_at_call 66; refine (work_any hT _ _ (by assumption) _ hg).mono ?_; rintro _ _ ⟨rfl, hg⟩) | (go_at_call 67; refine (formJ_any _ _ _ _).mono ?_; rintro _ _ ⟨rfl, hq⟩; replace hg := GN.trans hg hq; clear hq) | (go_at_call 68; refine (formB_any _ _ _ _ _ _).mono ?_; rintro _ _ ⟨rfl, hq⟩; replace hg := GN.trans hg hq; clear hq))
    go_ret
    exact ⟨congrArg (fun x : Nat => Ending.returned (Value.int .u32 (x : Int))) ((secondK_9 _ _ _ _ _ _ _ _).symm.trans (unhide Hfin)), hg⟩
  · go_wp2_with (first | (go_at_call 62; refine (field_any _ _ _ (by assumption) (by decide) (by decide) _).mono ?_; rintro _ _ ⟨rfl, hq⟩; replace hg := GN.trans hg hq; clear hq) | (go_at_call 63; refine (put_any hT _ _ _ (by decide) _ hg).mono ?_; rintro _ _ ⟨rfl, hq⟩; replace hg := GN.trans hg hq; clear hq) | (go_at_call 64; refine (formI_any _ _ _ _ _ _).mono ?_; rintro _ _ ⟨rfl, hq⟩; replace hg := GN.trans hg hq; clear hq) | (go_at_call 66; refine (work_any hT _ _ (by assumption) _ hg).mono ?_; rintro _ _ ⟨rfl, hg⟩) | (go_at_call 67; refine (formJ_any _ _ _ _).mono ?_; rintro _ _ ⟨rfl, hq⟩; replace hg := GN.trans hg hq; clear hq) | (go_at_call 68; refine (formB_any _ _ _ _ _ _).mono ?_; rintro _ _ ⟨rfl, hq⟩; replace hg := GN.trans hg hq; clear hq))
    go_ret
    exact ⟨congrArg (fun x : Nat => Ending.returned (Value.int .u32 (x : Int))) ((secondK_10 _ _ _ _ _ _ _ _).symm.trans (unhide Hfin)), hg⟩
def thirdK (k d t c six dl f : Nat) : Nat := (bif k == 0 then nI six d 1 d 19 else (bif k == 1 then nI (putN six (row 7) false) 2 3 d 7 else (bif k == 2 then (bif d != 0 then nI (putN six (row 8) false) 2 2 d 3 else 0) else (bif k == 3 then (bif d != 0 then nI (putN six (row 7) false) 2 3 d 3 else 0) else (bif k == 4 then (bif t != 0 then nR 0 t dl 0 d 51 else (bif d != 0 then nI 0 d 0 c 103 else (bif c == 1 then 1048691 else 0))) else (bif k == 5 then nS (putN f (row 7) false) t 2 3 39 else (bif k == 6 then nS (putN f (row 8) false) t 2 2 35 else (bif k == 7 then nS (putN f (row 7) false) t 2 3 35 else 0))))))))
def thirdN (h : Nat) : Nat := thirdK (fld h 15 13) (fld h 11 7) (fld h 6 2) (fld h 12 12) (or32 (fld h 12 12 * 32 % 4294967296) (fld h 6 2)) (fld h 11 7 * fld h 12 12 % 4294967296) (fld h 12 7)
theorem thirdK_0 (d t c six dl f : Nat) : thirdK 0 d t c six dl f = nI six d 1 d 19 := by unfold thirdK; rw [condT (b := 0 == 0) rfl]
theorem thirdK_1 (d t c six dl f : Nat) : thirdK 1 d t c six dl f = nI (putN six (row 7) false) 2 3 d 7 := by unfold thirdK; rw [condF (b := 1 == 0) rfl, condT (b := 1 == 1) rfl]
theorem thirdK_2 (d t c six dl f : Nat) (z0 : (d != 0) = false) : thirdK 2 d t c six dl f = 0 := by unfold thirdK; rw [condF (b := 2 == 0) rfl, condF (b := 2 == 1) rfl, condT (b := 2 == 2) rfl, condF z0]
theorem thirdK_3 (d t c six dl f : Nat) (z0 : (d != 0) = true) : thirdK 2 d t c six dl f = nI (putN six (row 8) false) 2 2 d 3 := by unfold thirdK; rw [condF (b := 2 == 0) rfl, condF (b := 2 == 1) rfl, condT (b := 2 == 2) rfl, condT z0]
theorem thirdK_4 (d t c six dl f : Nat) (z0 : (d != 0) = false) : thirdK 3 d t c six dl f = 0 := by unfold thirdK; rw [condF (b := 3 == 0) rfl, condF (b := 3 == 1) rfl, condF (b := 3 == 2) rfl, condT (b := 3 == 3) rfl, condF z0]
theorem thirdK_5 (d t c six dl f : Nat) (z0 : (d != 0) = true) : thirdK 3 d t c six dl f = nI (putN six (row 7) false) 2 3 d 3 := by unfold thirdK; rw [condF (b := 3 == 0) rfl, condF (b := 3 == 1) rfl, condF (b := 3 == 2) rfl, condT (b := 3 == 3) rfl, condT z0]
theorem thirdK_6 (d t c six dl f : Nat) (z0 : (t != 0) = false) (z1 : (d != 0) = false) (z2 : (c == 1) = false) : thirdK 4 d t c six dl f = 0 := by unfold thirdK; rw [condF (b := 4 == 0) rfl, condF (b := 4 == 1) rfl, condF (b := 4 == 2) rfl, condF (b := 4 == 3) rfl, condT (b := 4 == 4) rfl, condF z0, condF z1, condF z2]
theorem thirdK_7 (d t c six dl f : Nat) (z0 : (t != 0) = false) (z1 : (d != 0) = false) (z2 : (c == 1) = true) : thirdK 4 d t c six dl f = 1048691 := by unfold thirdK; rw [condF (b := 4 == 0) rfl, condF (b := 4 == 1) rfl, condF (b := 4 == 2) rfl, condF (b := 4 == 3) rfl, condT (b := 4 == 4) rfl, condF z0, condF z1, condT z2]
theorem thirdK_8 (d t c six dl f : Nat) (z0 : (t != 0) = false) (z1 : (d != 0) = true) : thirdK 4 d t c six dl f = nI 0 d 0 c 103 := by unfold thirdK; rw [condF (b := 4 == 0) rfl, condF (b := 4 == 1) rfl, condF (b := 4 == 2) rfl, condF (b := 4 == 3) rfl, condT (b := 4 == 4) rfl, condF z0, condT z1]
theorem thirdK_9 (d t c six dl f : Nat) (z0 : (t != 0) = true) : thirdK 4 d t c six dl f = nR 0 t dl 0 d 51 := by unfold thirdK; rw [condF (b := 4 == 0) rfl, condF (b := 4 == 1) rfl, condF (b := 4 == 2) rfl, condF (b := 4 == 3) rfl, condT (b := 4 == 4) rfl, condT z0]
theorem thirdK_10 (d t c six dl f : Nat) : thirdK 5 d t c six dl f = nS (putN f (row 7) false) t 2 3 39 := by unfold thirdK; rw [condF (b := 5 == 0) rfl, condF (b := 5 == 1) rfl, condF (b := 5 == 2) rfl, condF (b := 5 == 3) rfl, condF (b := 5 == 4) rfl, condT (b := 5 == 5) rfl]
theorem thirdK_11 (d t c six dl f : Nat) : thirdK 6 d t c six dl f = nS (putN f (row 8) false) t 2 2 35 := by unfold thirdK; rw [condF (b := 6 == 0) rfl, condF (b := 6 == 1) rfl, condF (b := 6 == 2) rfl, condF (b := 6 == 3) rfl, condF (b := 6 == 4) rfl, condF (b := 6 == 5) rfl, condT (b := 6 == 6) rfl]
theorem thirdK_12 (d t c six dl f : Nat) : thirdK 7 d t c six dl f = nS (putN f (row 7) false) t 2 3 35 := by unfold thirdK; rw [condF (b := 7 == 0) rfl, condF (b := 7 == 1) rfl, condF (b := 7 == 2) rfl, condF (b := 7 == 3) rfl, condF (b := 7 == 4) rfl, condF (b := 7 == 5) rfl, condF (b := 7 == 6) rfl, condT (b := 7 == 7) rfl]
set_option maxRecDepth 100000 in
set_option maxHeartbeats 2000000 in
theorem third_any {w0 : World} (hT : Tab w0) (h : Nat) (hh : h < 65536) (w : World) (hg : GN w0 w) : Calls Tryd.prog 48 #[.int .u16 h] w fun e w' => e = .returned (.int .u32 (thirdN h : Nat)) ∧ GN w0 w' := by
  have hfin : thirdN h = thirdK (fld h 15 13) (fld h 11 7) (fld h 6 2) (fld h 12 12) (or32 (fld h 12 12 * 32 % 4294967296) (fld h 6 2)) (fld h 11 7 * fld h 12 12 % 4294967296) (fld h 12 7) := rfl
  have hkb := fld_lt h 15 13
  rw [show 2 ^ (15 - 13 + 1) = 8 from rfl] at hkb
  have e1 := or32i (fld h 12 12 * 32 % 4294967296) (fld h 6 2)
  rw [← shl32 (fld h 12 12) 32, Int.cast_ofNat_Int] at e1
  have e2 := shl32 (fld h 11 7) (fld h 12 12)
  generalize or32 (fld h 12 12 * 32 % 4294967296) (fld h 6 2) = six at *
  generalize fld h 11 7 * fld h 12 12 % 4294967296 = dl at *
  generalize hk0 : fld h 15 13 = k at *
  generalize hd0 : fld h 11 7 = d at *
  generalize ht0 : fld h 6 2 = t at *
  generalize hc0 : fld h 12 12 = c at *
  generalize hf0 : fld h 12 7 = f at *
  obtain ⟨ans, hans⟩ : ∃ a, thirdN h = a := ⟨_, rfl⟩
  rw [hans]
  rw [hans] at hfin
  clear hans
  have Hfin := hide hfin.symm
  clear hfin
  go_enter Tryd.func48, Tryd.ntmps48
  go_upto_region 6 with (first | (go_at_call 62; refine (field_any _ _ _ (by assumption) (by decide) (by decide) _).mono ?_; rintro _ _ ⟨rfl, hq⟩; replace hg := GN.trans hg hq; clear hq) | (go_at_call 63; refine (put_any hT _ _ _ (by decide) _ hg).mono ?_; rintro _ _ ⟨rfl, hq⟩; replace hg := GN.trans hg hq; clear hq))
  clear hk0
  have hkn : k = 0 ∨ k = 1 ∨ k = 2 ∨ k = 3 ∨ k = 4 ∨ k = 5 ∨ k = 6 ∨ k = 7 := by omega
  clear hkb
  rcases hkn with rfl | rfl | rfl | rfl | rfl | rfl | rfl | rfl
  · go_wp2_with (first | (go_at_call 62; refine (field_any _ _ _ (by assumption) (by decide) (by decide) _).mono ?_; rintro _ _ ⟨rfl, hq⟩; replace hg := GN.trans hg hq; clear hq) | (go_at_call 63; refine (put_any hT _ _ _ (by decide) _ hg).mono ?_; rintro _ _ ⟨rfl, hq⟩; replace hg := GN.trans hg hq; clear hq) | (go_at_call 64; refine (formI_any _ _ _ _ _ _).mono ?_; rintro _ _ ⟨rfl, hq⟩; replace hg := GN.trans hg hq; clear hq) | (go_at_call 65; refine (formS_any _ _ _ _ _ _).mono ?_; rintro _ _ ⟨rfl, hq⟩; replace hg := GN.trans hg hq; clear hq) | (go_at_call 69; refine (formR_any _ _ _ _ _ _ _).mono ?_; rintro _ _ ⟨rfl, hq⟩; replace hg := GN.trans hg hq; clear hq))
    go_ret
    exact ⟨congrArg (fun x : Nat => Ending.returned (Value.int .u32 (x : Int))) ((thirdK_0 _ _ _ _ _ _).symm.trans (unhide Hfin)), hg⟩
  · go_wp2_with (first | (go_at_call 62; refine (field_any _ _ _ (by assumption) (by decide) (by decide) _).mono ?_; rintro _ _ ⟨rfl, hq⟩; replace hg := GN.trans hg hq; clear hq) | (go_at_call 63; refine (put_any hT _ _ _ (by decide) _ hg).mono ?_; rintro _ _ ⟨rfl, hq⟩; replace hg := GN.trans hg hq; clear hq) | (go_at_call 64; refine (formI_any _ _ _ _ _ _).mono ?_; rintro _ _ ⟨rfl, hq⟩; replace hg := GN.trans hg hq; clear hq) | (go_at_call 65; refine (formS_any _ _ _ _ _ _).mono ?_; rintro _ _ ⟨rfl, hq⟩; replace hg := GN.trans hg hq; clear hq) | (go_at_call 69; refine (formR_any _ _ _ _ _ _ _).mono ?_; rintro _ _ ⟨rfl, hq⟩; replace hg := GN.trans hg hq; clear hq))
    go_ret
    exact ⟨congrArg (fun x : Nat => Ending.returned (Value.int .u32 (x : Int))) ((thirdK_1 _ _ _ _ _ _).symm.trans (unhide Hfin)), hg⟩
  · cases hz0 : (d != 0)
    · have Hz0 := hide hz0
      have zi0 : (((d : Nat) : Int) != 0) = false := by
        have := natBNe (d) 0
        rw [hz0] at this
        exact this
      clear hz0
      go_wp2_with (first | (go_at_call 62; refine (field_any _ _ _ (by assumption) (by decide) (by decide) _).mono ?_; rintro _ _ ⟨rfl, hq⟩; replace hg := GN.trans hg hq; clear hq) | (go_at_call 63; refine (put_any hT _ _ _ (by decide) _ hg).mono ?_; rintro _ _ ⟨rfl, hq⟩; replace hg := GN.trans hg hq; clear hq) | (go_at_call 64; refine (formI_any _ _ _ _ _ _).mono ?_; rintro _ _ ⟨rfl, hq⟩; replace hg := GN.trans hg hq; clear hq) | (go_at_call 65; refine (formS_any _ _ _ _ _ _).mono ?_; rintro _ _ ⟨rfl, hq⟩; replace hg := GN.trans hg hq; clear hq) | (go_at_call 69; refine (formR_any _ _ _ _ _ _ _).mono ?_; rintro _ _ ⟨rfl, hq⟩; replace hg := GN.trans hg hq; clear hq))
      go_ret
      exact ⟨congrArg (fun x : Nat => Ending.returned (Value.int .u32 (x : Int))) ((thirdK_2 _ _ _ _ _ _ (unhide Hz0)).symm.trans (unhide Hfin)), hg⟩
    · have Hz0 := hide hz0
      have zi0 : (((d : Nat) : Int) != 0) = true := by
        have := natBNe (d) 0
        rw [hz0] at this
        exact this
      clear hz0
      go_wp2_with (first | (go_at_call 62; refine (field_any _ _ _ (by assumption) (by decide) (by decide) _).mono ?_; rintro _ _ ⟨rfl, hq⟩; replace hg := GN.trans hg hq; clear hq) | (go_at_call 63; refine (put_any hT _ _ _ (by decide) _ hg).mono ?_; rintro _ _ ⟨rfl, hq⟩; replace hg := GN.trans hg hq; clear hq) | (go_at_call 64; refine (formI_any _ _ _ _ _ _).mono ?_; rintro _ _ ⟨rfl, hq⟩; replace hg := GN.trans hg hq; clear hq) | (go_at_call 65; refine (formS_any _ _ _ _ _ _).mono ?_; rintro _ _ ⟨rfl, hq⟩; replace hg := GN.trans hg hq; clear hq) | (go_at_call 69; refine (formR_any _ _ _ _ _ _ _).mono ?_; rintro _ _ ⟨rfl, hq⟩; replace hg := GN.trans hg hq; clear hq))
      go_ret
      exact ⟨congrArg (fun x : Nat => Ending.returned (Value.int .u32 (x : Int))) ((thirdK_3 _ _ _ _ _ _ (unhide Hz0)).symm.trans (unhide Hfin)), hg⟩
  · cases hz0 : (d != 0)
    · have Hz0 := hide hz0
      have zi0 : (((d : Nat) : Int) != 0) = false := by
        have := natBNe (d) 0
        rw [hz0] at this
        exact this
      clear hz0
      go_wp2_with (first | (go_at_call 62; refine (field_any _ _ _ (by assumption) (by decide) (by decide) _).mono ?_; rintro _ _ ⟨rfl, hq⟩; replace hg := GN.trans hg hq; clear hq) | (go_at_call 63; refine (put_any hT _ _ _ (by decide) _ hg).mono ?_; rintro _ _ ⟨rfl, hq⟩; replace hg := GN.trans hg hq; clear hq) | (go_at_call 64; refine (formI_any _ _ _ _ _ _).mono ?_; rintro _ _ ⟨rfl, hq⟩; replace hg := GN.trans hg hq; clear hq) | (go_at_call 65; refine (formS_any _ _ _ _ _ _).mono ?_; rintro _ _ ⟨rfl, hq⟩; replace hg := GN.trans hg hq; clear hq) | (go_at_call 69; refine (formR_any _ _ _ _ _ _ _).mono ?_; rintro _ _ ⟨rfl, hq⟩; replace hg := GN.trans hg hq; clear hq))
      go_ret
      exact ⟨congrArg (fun x : Nat => Ending.returned (Value.int .u32 (x : Int))) ((thirdK_4 _ _ _ _ _ _ (unhide Hz0)).symm.trans (unhide Hfin)), hg⟩
    · have Hz0 := hide hz0
      have zi0 : (((d : Nat) : Int) != 0) = true := by
        have := natBNe (d) 0
        rw [hz0] at this
        exact this
      clear hz0
      go_wp2_with (first | (go_at_call 62; refine (field_any _ _ _ (by assumption) (by decide) (by decide) _).mono ?_; rintro _ _ ⟨rfl, hq⟩; replace hg := GN.trans hg hq; clear hq) | (go_at_call 63; refine (put_any hT _ _ _ (by decide) _ hg).mono ?_; rintro _ _ ⟨rfl, hq⟩; replace hg := GN.trans hg hq; clear hq) | (go_at_call 64; refine (formI_any _ _ _ _ _ _).mono ?_; rintro _ _ ⟨rfl, hq⟩; replace hg := GN.trans hg hq; clear hq) | (go_at_call 65; refine (formS_any _ _ _ _ _ _).mono ?_; rintro _ _ ⟨rfl, hq⟩; replace hg := GN.trans hg hq; clear hq) | (go_at_call 69; refine (formR_any _ _ _ _ _ _ _).mono ?_; rintro _ _ ⟨rfl, hq⟩; replace hg := GN.trans hg hq; clear hq))
      go_ret
      exact ⟨congrArg (fun x : Nat => Ending.returned (Value.int .u32 (x : Int))) ((thirdK_5 _ _ _ _ _ _ (unhide Hz0)).symm.trans (unhide Hfin)), hg⟩
  · cases hz0 : (t != 0)
    · have Hz0 := hide hz0
      have zi0 : (((t : Nat) : Int) != 0) = false := by
        have := natBNe (t) 0
        rw [hz0] at this
        exact this
      clear hz0
      cases hz1 : (d != 0)
      · have Hz1 := hide hz1
        have zi1 : (((d : Nat) : Int) != 0) = false := by
          have := natBNe (d) 0
          rw [hz1] at this
          exact this
        clear hz1
        cases hz2 : (c == 1)
        · have Hz2 := hide hz2
          have zi2 : (((c : Nat) : Int) == 1) = false := by
            have := natBEq (c) 1
            rw [hz2] at this
            exact this
          clear hz2
          go_wp2_with (first | (go_at_call 62; refine (field_any _ _ _ (by assumption) (by decide) (by decide) _).mono ?_; rintro _ _ ⟨rfl, hq⟩; replace hg := GN.trans hg hq; clear hq) | (go_at_call 63; refine (put_any hT _ _ _ (by decide) _ hg).mono ?_; rintro _ _ ⟨rfl, hq⟩; replace hg := GN.trans hg hq; clear hq) | (go_at_call 64; refine (formI_any _ _ _ _ _ _).mono ?_; rintro _ _ ⟨rfl, hq⟩; replace hg := GN.trans hg hq; clear hq) | (go_at_call 65; refine (formS_any _ _ _ _ _ _).mono ?_; rintro _ _ ⟨rfl, hq⟩; replace hg := GN.trans hg hq; clear hq) | (go_at_call 69; refine (formR_any _ _ _ _ _ _ _).mono ?_; rintro _ _ ⟨rfl, hq⟩; replace hg := GN.trans hg hq; clear hq))
          go_ret
          exact ⟨congrArg (fun x : Nat => Ending.returned (Value.int .u32 (x : Int))) ((thirdK_6 _ _ _ _ _ _ (unhide Hz0) (unhide Hz1) (unhide Hz2)).symm.trans (unhide Hfin)), hg⟩
        · have Hz2 := hide hz2
          have zi2 : (((c : Nat) : Int) == 1) = true := by
            have := natBEq (c) 1
            rw [hz2] at this
            exact this
          clear hz2
          go_wp2_with (first | (go_at_call 62; refine (field_any _ _ _ (by assumption) (by decide) (by decide) _).mono ?_; rintro _ _ ⟨rfl, hq⟩; replace hg := GN.trans hg hq; clear hq) | (go_at_call 63; refine (put_any hT _ _ _ (by decide) _ hg).mono ?_; rintro _ _ ⟨rfl, hq⟩; replace hg := GN.trans hg hq; clear hq) | (go_at_call 64; refine (formI_any _ _ _ _ _ _).mono ?_; rintro _ _ ⟨rfl, hq⟩; replace hg := GN.trans hg hq; clear hq) | (go_at_call 65; refine (formS_any _ _ _ _ _ _).mono ?_; rintro _ _ ⟨rfl, hq⟩; replace hg := GN.trans hg hq; clear hq) | (go_at_call 69; refine (formR_any _ _ _ _ _ _ _).mono ?_; rintro _ _ ⟨rfl, hq⟩; replace hg := GN.trans hg hq; clear hq))
          go_ret
          exact ⟨congrArg (fun x : Nat => Ending.returned (Value.int .u32 (x : Int))) ((thirdK_7 _ _ _ _ _ _ (unhide Hz0) (unhide Hz1) (unhide Hz2)).symm.trans (unhide Hfin)), hg⟩
      · have Hz1 := hide hz1
        have zi1 : (((d : Nat) : Int) != 0) = true := by
          have := natBNe (d) 0
          rw [hz1] at this
          exact this
        clear hz1
        go_wp2_with (first | (go_at_call 62; refine (field_any _ _ _ (by assumption) (by decide) (by decide) _).mono ?_; rintro _ _ ⟨rfl, hq⟩; replace hg := GN.trans hg hq; clear hq) | (go_at_call 63; refine (put_any hT _ _ _ (by decide) _ hg).mono ?_; rintro _ _ ⟨rfl, hq⟩; replace hg := GN.trans hg hq; clear hq) | (go_at_call 64; refine (formI_any _ _ _ _ _ _).mono ?_; rintro _ _ ⟨rfl, hq⟩; replace hg := GN.trans hg hq; clear hq) | (go_at_call 65; refine (formS_any _ _ _ _ _ _).mono ?_; rintro _ _ ⟨rfl, hq⟩; replace hg := GN.trans hg hq; clear hq) | (go_at_call 69; refine (formR_any _ _ _ _ _ _ _).mono ?_; rintro _ _ ⟨rfl, hq⟩; replace hg := GN.trans hg hq; clear hq))
        go_ret
        exact ⟨congrArg (fun x : Nat => Ending.returned (Value.int .u32 (x : Int))) ((thirdK_8 _ _ _ _ _ _ (unhide Hz0) (unhide Hz1)).symm.trans (unhide Hfin)), hg⟩
    · have Hz0 := hide hz0
      have zi0 : (((t : Nat) : Int) != 0) = true := by
        have := natBNe (t) 0
        rw [hz0] at this
        exact this
      clear hz0
      go_wp2_with (first | (go_at_call 62; refine (field_any _ _ _ (by assumption) (by decide) (by decide) _).mono ?_; rintro _ _ ⟨rfl, hq⟩; replace hg := GN.trans hg hq; clear hq) | (go_at_call 63; refine (put_any hT _ _ _ (by decide) _ hg).mono ?_; rintro _ _ ⟨rfl, hq⟩; replace hg := GN.trans hg hq; clear hq) | (go_at_call 64; refine (formI_any _ _ _ _ _ _).mono ?_; rintro _ _ ⟨rfl, hq⟩; replace hg := GN.trans hg hq; clear hq) | (go_at_call 65; refine (formS_any _ _ _ _ _ _).mono ?_; rintro _ _ ⟨rfl, hq⟩; replace hg := GN.trans hg hq; clear hq) | (go_at_call 69; refine (formR_any _ _ _ _ _ _ _).mono ?_; rintro _ _ ⟨rfl, hq⟩; replace hg := GN.trans hg hq; clear hq))
      go_ret
      exact ⟨congrArg (fun x : Nat => Ending.returned (Value.int .u32 (x : Int))) ((thirdK_9 _ _ _ _ _ _ (unhide Hz0)).symm.trans (unhide Hfin)), hg⟩
  · go_wp2_with (first | (go_at_call 62; refine (field_any _ _ _ (by assumption) (by decide) (by decide) _).mono ?_; rintro _ _ ⟨rfl, hq⟩; replace hg := GN.trans hg hq; clear hq) | (go_at_call 63; refine (put_any hT _ _ _ (by decide) _ hg).mono ?_; rintro _ _ ⟨rfl, hq⟩; replace hg := GN.trans hg hq; clear hq) | (go_at_call 64; refine (formI_any _ _ _ _ _ _).mono ?_; rintro _ _ ⟨rfl, hq⟩; replace hg := GN.trans hg hq; clear hq) | (go_at_call 65; refine (formS_any _ _ _ _ _ _).mono ?_; rintro _ _ ⟨rfl, hq⟩; replace hg := GN.trans hg hq; clear hq) | (go_at_call 69; refine (formR_any _ _ _ _ _ _ _).mono ?_; rintro _ _ ⟨rfl, hq⟩; replace hg := GN.trans hg hq; clear hq))
    go_ret
    exact ⟨congrArg (fun x : Nat => Ending.returned (Value.int .u32 (x : Int))) ((thirdK_10 _ _ _ _ _ _).symm.trans (unhide Hfin)), hg⟩
  · go_wp2_with (first | (go_at_call 62; refine (field_any _ _ _ (by assumption) (by decide) (by decide) _).mono ?_; rintro _ _ ⟨rfl, hq⟩; replace hg := GN.trans hg hq; clear hq) | (go_at_call 63; refine (put_any hT _ _ _ (by decide) _ hg).mono ?_; rintro _ _ ⟨rfl, hq⟩; replace hg := GN.trans hg hq; clear hq) | (go_at_call 64; refine (formI_any _ _ _ _ _ _).mono ?_; rintro _ _ ⟨rfl, hq⟩; replace hg := GN.trans hg hq; clear hq) | (go_at_call 65; refine (formS_any _ _ _ _ _ _).mono ?_; rintro _ _ ⟨rfl, hq⟩; replace hg := GN.trans hg hq; clear hq) | (go_at_call 69; refine (formR_any _ _ _ _ _ _ _).mono ?_; rintro _ _ ⟨rfl, hq⟩; replace hg := GN.trans hg hq; clear hq))
    go_ret
    exact ⟨congrArg (fun x : Nat => Ending.returned (Value.int .u32 (x : Int))) ((thirdK_11 _ _ _ _ _ _).symm.trans (unhide Hfin)), hg⟩
  · go_wp2_with (first | (go_at_call 62; refine (field_any _ _ _ (by assumption) (by decide) (by decide) _).mono ?_; rintro _ _ ⟨rfl, hq⟩; replace hg := GN.trans hg hq; clear hq) | (go_at_call 63; refine (put_any hT _ _ _ (by decide) _ hg).mono ?_; rintro _ _ ⟨rfl, hq⟩; replace hg := GN.trans hg hq; clear hq) | (go_at_call 64; refine (formI_any _ _ _ _ _ _).mono ?_; rintro _ _ ⟨rfl, hq⟩; replace hg := GN.trans hg hq; clear hq) | (go_at_call 65; refine (formS_any _ _ _ _ _ _).mono ?_; rintro _ _ ⟨rfl, hq⟩; replace hg := GN.trans hg hq; clear hq) | (go_at_call 69; refine (formR_any _ _ _ _ _ _ _).mono ?_; rintro _ _ ⟨rfl, hq⟩; replace hg := GN.trans hg hq; clear hq))
    go_ret
    exact ⟨congrArg (fun x : Nat => Ending.returned (Value.int .u32 (x : Int))) ((thirdK_12 _ _ _ _ _ _).symm.trans (unhide Hfin)), hg⟩
end Go.Proofs.YtblbgalpkodibaaDoor
