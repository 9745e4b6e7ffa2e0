/- Layer 4: the document's table, column 2. -/
import Derived.Test.YtblbgalpkodibaaDoorR4
namespace Go.Proofs.YtblbgalpkodibaaDoor
open Go.RowKit

def twoK (k d t b i6 i8 i4 j8 j4 : Nat) : Nat := (bif k == 0 then rI i6 d 1 d 19 else (bif k == 1 then rI i8 2 3 d 7 else (bif k == 2 then (bif d == 0 then 0 else rI i4 2 2 d 3) else (bif k == 3 then (bif d == 0 then 0 else rI i8 2 3 d 3) else (bif k == 5 then rS j8 t 2 3 39 else (bif k == 6 then rS j4 t 2 2 35 else (bif k == 7 then rS j8 t 2 3 35 else (bif b == 0 then (bif t == 0 then (bif d == 0 then 0 else rI 0 d 0 0 103) else rR 0 t 0 0 d 51) else (bif t == 0 then (bif d == 0 then 1048691 else rI 0 d 0 1 103) else rR 0 t d 0 d 51)))))))))
def twoN (h : Nat) : Nat := twoK (prt h 15 13) (prt h 11 7) (prt h 6 2) (and32 (h / 2 ^ 12) 1) (immN h (dnl 12 1 ++ dnl 6 5) [5, 4, 3, 2, 1, 0] false) (immN h (dnl 12 1 ++ dnl 6 5) [5, 4, 3, 8, 7, 6] false) (immN h (dnl 12 1 ++ dnl 6 5) [5, 4, 3, 2, 7, 6] false) (immN h (dnl 12 6 ++ dnl (-1) 0) [5, 4, 3, 8, 7, 6] false) (immN h (dnl 12 6 ++ dnl (-1) 0) [5, 4, 3, 2, 7, 6] false)
theorem twoK_0 (d t b i6 i8 i4 j8 j4 : Nat) : twoK 0 d t b i6 i8 i4 j8 j4 = rI i6 d 1 d 19 := by unfold twoK; rw [condT (b := 0 == 0) rfl]
theorem twoK_1 (d t b i6 i8 i4 j8 j4 : Nat) : twoK 1 d t b i6 i8 i4 j8 j4 = rI i8 2 3 d 7 := by unfold twoK; rw [condF (b := 1 == 0) rfl, condT (b := 1 == 1) rfl]
theorem twoK_2 (d t b i6 i8 i4 j8 j4 : Nat) (z0 : (d == 0) = false) : twoK 2 d t b i6 i8 i4 j8 j4 = rI i4 2 2 d 3 := by unfold twoK; rw [condF (b := 2 == 0) rfl, condF (b := 2 == 1) rfl, condT (b := 2 == 2) rfl, condF z0]
theorem twoK_3 (d t b i6 i8 i4 j8 j4 : Nat) (z0 : (d == 0) = true) : twoK 2 d t b i6 i8 i4 j8 j4 = 0 := by unfold twoK; rw [condF (b := 2 == 0) rfl, condF (b := 2 == 1) rfl, condT (b := 2 == 2) rfl, condT z0]
theorem twoK_4 (d t b i6 i8 i4 j8 j4 : Nat) (z0 : (d == 0) = false) : twoK 3 d t b i6 i8 i4 j8 j4 = rI i8 2 3 d 3 := by unfold twoK; rw [condF (b := 3 == 0) rfl, condF (b := 3 == 1) rfl, condF (b := 3 == 2) rfl, condT (b := 3 == 3) rfl, condF z0]
theorem twoK_5 (d t b i6 i8 i4 j8 j4 : Nat) (z0 : (d == 0) = true) : twoK 3 d t b i6 i8 i4 j8 j4 = 0 := by unfold twoK; rw [condF (b := 3 == 0) rfl, condF (b := 3 == 1) rfl, condF (b := 3 == 2) rfl, condT (b := 3 == 3) rfl, condT z0]
theorem twoK_6 (d t i6 i8 i4 j8 j4 : Nat) (z0 : (t == 0) = false) : twoK 4 d t 0 i6 i8 i4 j8 j4 = rR 0 t 0 0 d 51 := by unfold twoK; rw [condF (b := 4 == 0) rfl, condF (b := 4 == 1) rfl, condF (b := 4 == 2) rfl, condF (b := 4 == 3) rfl, condF (b := 4 == 5) rfl, condF (b := 4 == 6) rfl, condF (b := 4 == 7) rfl, condT (b := 0 == 0) rfl, condF z0]
theorem twoK_7 (d t i6 i8 i4 j8 j4 : Nat) (z0 : (t == 0) = true) (z1 : (d == 0) = false) : twoK 4 d t 0 i6 i8 i4 j8 j4 = rI 0 d 0 0 103 := by unfold twoK; rw [condF (b := 4 == 0) rfl, condF (b := 4 == 1) rfl, condF (b := 4 == 2) rfl, condF (b := 4 == 3) rfl, condF (b := 4 == 5) rfl, condF (b := 4 == 6) rfl, condF (b := 4 == 7) rfl, condT (b := 0 == 0) rfl, condT z0, condF z1]
theorem twoK_8 (d t i6 i8 i4 j8 j4 : Nat) (z0 : (t == 0) = true) (z1 : (d == 0) = true) : twoK 4 d t 0 i6 i8 i4 j8 j4 = 0 := by unfold twoK; rw [condF (b := 4 == 0) rfl, condF (b := 4 == 1) rfl, condF (b := 4 == 2) rfl, condF (b := 4 == 3) rfl, condF (b := 4 == 5) rfl, condF (b := 4 == 6) rfl, condF (b := 4 == 7) rfl, condT (b := 0 == 0) rfl, condT z0, condT z1]
theorem twoK_9 (d t i6 i8 i4 j8 j4 : Nat) (z0 : (t == 0) = false) : twoK 4 d t 1 i6 i8 i4 j8 j4 = rR 0 t d 0 d 51 := by unfold twoK; rw [condF (b := 4 == 0) rfl, condF (b := 4 == 1) rfl, condF (b := 4 == 2) rfl, condF (b := 4 == 3) rfl, condF (b := 4 == 5) rfl, condF (b := 4 == 6) rfl, condF (b := 4 == 7) rfl, condF (b := 1 == 0) rfl, condF z0]
theorem twoK_10 (d t i6 i8 i4 j8 j4 : Nat) (z0 : (t == 0) = true) (z1 : (d == 0) = false) : twoK 4 d t 1 i6 i8 i4 j8 j4 = rI 0 d 0 1 103 := by unfold twoK; rw [condF (b := 4 == 0) rfl, condF (b := 4 == 1) rfl, condF (b := 4 == 2) rfl, condF (b := 4 == 3) rfl, condF (b := 4 == 5) rfl, condF (b := 4 == 6) rfl, condF (b := 4 == 7) rfl, condF (b := 1 == 0) rfl, condT z0, condF z1]
theorem twoK_11 (d t i6 i8 i4 j8 j4 : Nat) (z0 : (t == 0) = true) (z1 : (d == 0) = true) : twoK 4 d t 1 i6 i8 i4 j8 j4 = 1048691 := by unfold twoK; rw [condF (b := 4 == 0) rfl, condF (b := 4 == 1) rfl, condF (b := 4 == 2) rfl, condF (b := 4 == 3) rfl, condF (b := 4 == 5) rfl, condF (b := 4 == 6) rfl, condF (b := 4 == 7) rfl, condF (b := 1 == 0) rfl, condT z0, condT z1]
theorem twoK_12 (d t b i6 i8 i4 j8 j4 : Nat) : twoK 5 d t b i6 i8 i4 j8 j4 = rS j8 t 2 3 39 := by unfold twoK; rw [condF (b := 5 == 0) rfl, condF (b := 5 == 1) rfl, condF (b := 5 == 2) rfl, condF (b := 5 == 3) rfl, condT (b := 5 == 5) rfl]
theorem twoK_13 (d t b i6 i8 i4 j8 j4 : Nat) : twoK 6 d t b i6 i8 i4 j8 j4 = rS j4 t 2 2 35 := by unfold twoK; rw [condF (b := 6 == 0) rfl, condF (b := 6 == 1) rfl, condF (b := 6 == 2) rfl, condF (b := 6 == 3) rfl, condF (b := 6 == 5) rfl, condT (b := 6 == 6) rfl]
theorem twoK_14 (d t b i6 i8 i4 j8 j4 : Nat) : twoK 7 d t b i6 i8 i4 j8 j4 = rS j8 t 2 3 35 := by unfold twoK; rw [condF (b := 7 == 0) rfl, condF (b := 7 == 1) rfl, condF (b := 7 == 2) rfl, condF (b := 7 == 3) rfl, condF (b := 7 == 5) rfl, condF (b := 7 == 6) rfl, condT (b := 7 == 7) rfl]
set_option maxRecDepth 100000 in
set_option maxHeartbeats 2000000 in
theorem two_any {w0 : World} (_hT : Tab w0) (h : Nat) (hh : h < 65536) (w : World) (hg : GN w0 w) : Calls Tryd.prog 36 #[.int .u16 h] w fun e w' => e = .returned (.int .u32 (twoN h : Nat)) ∧ GN w0 w' := by
  have hfin : twoN h = twoK (prt h 15 13) (prt h 11 7) (prt h 6 2) (and32 (h / 2 ^ 12) 1) (immN h (dnl 12 1 ++ dnl 6 5) [5, 4, 3, 2, 1, 0] false) (immN h (dnl 12 1 ++ dnl 6 5) [5, 4, 3, 8, 7, 6] false) (immN h (dnl 12 1 ++ dnl 6 5) [5, 4, 3, 2, 7, 6] false) (immN h (dnl 12 6 ++ dnl (-1) 0) [5, 4, 3, 8, 7, 6] false) (immN h (dnl 12 6 ++ dnl (-1) 0) [5, 4, 3, 2, 7, 6] false) := rfl
  have hkb := prt_lt h 15 13 (by decide)
  rw [show 2 ^ (15 + 1 - 13) = 8 from rfl] at hkb
  have hbb : and32 (h / 2 ^ 12) 1 < 2 := by
    unfold and32
    have : h / 2 ^ 12 &&& 1 ≤ 1 := Nat.and_le_right
    omega
  generalize hk0 : prt h 15 13 = k at *
  generalize hd0 : prt h 11 7 = d at *
  generalize ht0 : prt h 6 2 = t at *
  generalize hb0 : and32 (h / 2 ^ 12) 1 = b at *
  have hb1 : and32 (h / 4096) 1 = b := hb0
  generalize h60 : immN h (dnl 12 1 ++ dnl 6 5) [5, 4, 3, 2, 1, 0] false = i6 at *
  generalize h80 : immN h (dnl 12 1 ++ dnl 6 5) [5, 4, 3, 8, 7, 6] false = i8 at *
  generalize h40 : immN h (dnl 12 1 ++ dnl 6 5) [5, 4, 3, 2, 7, 6] false = i4 at *
  generalize q80 : immN h (dnl 12 6 ++ dnl (-1) 0) [5, 4, 3, 8, 7, 6] false = j8 at *
  generalize q40 : immN h (dnl 12 6 ++ dnl (-1) 0) [5, 4, 3, 2, 7, 6] false = j4 at *
  obtain ⟨ans, hans⟩ : ∃ a, twoN h = a := ⟨_, rfl⟩
  rw [hans]
  rw [hans] at hfin
  clear hans
  have Hfin := hide hfin.symm
  clear hfin
  go_enter Tryd.func36, Tryd.ntmps36
  go_upto_region 3 with (first | (go_at_call 33; refine (rbits_any _ _ _ (by assumption) (by decide) (by decide) _).mono ?_; rintro _ _ ⟨rfl, hq⟩; replace hg := GN.trans hg hq; (try replace hA := IntsAt.gn hA hq); (try replace hD := IntsAt.gn hD hq); (try replace hB := IntsAt.gn hB hq); (try replace hL := IntsAt.gn hL hq); clear hq))
  go_wp2_with fail
  refine (rows_any 12 12 6 2 1 5 (by decide) (by decide) (by decide) (by decide) (by decide) (by decide) (by decide) (by decide) (by decide) _).mono ?_
  rintro _ _ ⟨vhA, rfl, hA, hq⟩
  replace hg := GN.trans hg hq
  (try replace hD := IntsAt.gn hD hq)
  (try replace hL := IntsAt.gn hL hq)
  clear hq
  go_wp2_with fail
  refine (rows_any 12 7 (-1) 0 6 0 (by decide) (by decide) (by decide) (by decide) (by decide) (by decide) (by decide) (by decide) (by decide) _).mono ?_
  rintro _ _ ⟨vhD, rfl, hD, hq⟩
  replace hg := GN.trans hg hq
  (try replace hA := IntsAt.gn hA hq)
  (try replace hL := IntsAt.gn hL hq)
  clear hq
  go_upto_region 6 with (first | (go_at_call 33; refine (rbits_any _ _ _ (by assumption) (by decide) (by decide) _).mono ?_; rintro _ _ ⟨rfl, hq⟩; replace hg := GN.trans hg hq; (try replace hA := IntsAt.gn hA hq); (try replace hD := IntsAt.gn hD hq); (try replace hB := IntsAt.gn hB hq); (try replace hL := IntsAt.gn hL hq); clear hq))
  clear hk0
  have hkn : k = 0 ∨ k = 1 ∨ k = 2 ∨ k = 3 ∨ k = 4 ∨ k = 5 ∨ k = 6 ∨ k = 7 := by omega
  clear hkb
  rcases hkn with rfl | rfl | rfl | rfl | rfl | rfl | rfl | rfl
  · go_wp2_with fail
    refine (imm_any _ (by assumption) _ _ (dnl 12 1 ++ dnl 6 5) [5, 4, 3, 2, 1, 0] false (by decide) (by decide) (by decide) _ (GN.alloc hg _) (IntsAt.gn hA (GN.alloc (GN.refl _) _)) (new_ints [5, 4, 3, 2, 1, 0] _)).mono ?_
    rintro _ _ ⟨rfl, hq⟩
    replace hq := GN.trans (GN.alloc (GN.refl _) _) hq
    replace hg := GN.trans hg hq
    (try replace hA := IntsAt.gn hA hq)
    (try replace hD := IntsAt.gn hD hq)
    (try replace hL := IntsAt.gn hL hq)
    clear hq
    go_wp2_with (first | (go_at_call 54; refine (rformI_any _ _ _ _ _ _).mono ?_; rintro _ _ ⟨rfl, hq⟩; replace hg := GN.trans hg hq; (try replace hA := IntsAt.gn hA hq); (try replace hD := IntsAt.gn hD hq); (try replace hB := IntsAt.gn hB hq); (try replace hL := IntsAt.gn hL hq); clear hq))
    go_ret
    exact ⟨congrArg (fun x : Nat => Ending.returned (Value.int .u32 (x : Int))) ((twoK_0 _ _ _ _ _ _ _ _).symm.trans (unhide Hfin)), hg⟩
  · go_wp2_with fail
    refine (list40_any _).mono ?_
    rintro _ _ ⟨vB, rfl, hB, hq⟩
    replace hg := GN.trans hg hq
    (try replace hA := IntsAt.gn hA hq)
    (try replace hD := IntsAt.gn hD hq)
    (try replace hL := IntsAt.gn hL hq)
    clear hq
    go_wp2_with fail
    refine (imm_any _ (by assumption) _ _ (dnl 12 1 ++ dnl 6 5) [5, 4, 3, 8, 7, 6] false (by decide) (by decide) (by decide) _ hg hA hB).mono ?_
    rintro _ _ ⟨rfl, hq⟩
    replace hg := GN.trans hg hq
    (try replace hA := IntsAt.gn hA hq)
    (try replace hD := IntsAt.gn hD hq)
    (try replace hL := IntsAt.gn hL hq)
    clear hq
    go_wp2_with (first | (go_at_call 54; refine (rformI_any _ _ _ _ _ _).mono ?_; rintro _ _ ⟨rfl, hq⟩; replace hg := GN.trans hg hq; (try replace hA := IntsAt.gn hA hq); (try replace hD := IntsAt.gn hD hq); (try replace hB := IntsAt.gn hB hq); (try replace hL := IntsAt.gn hL hq); clear hq))
    go_ret
    exact ⟨congrArg (fun x : Nat => Ending.returned (Value.int .u32 (x : Int))) ((twoK_1 _ _ _ _ _ _ _ _).symm.trans (unhide Hfin)), hg⟩
  · cases hz0 : (d == 0)
    · have Hz0 := hide hz0
      have zi0 : (((d : Nat) : Int) == 0) = false := by
        have := natBEq (d) 0
        rw [hz0] at this
        exact this
      clear hz0
      go_wp2_with fail
      refine (list41_any _).mono ?_
      rintro _ _ ⟨vB, rfl, hB, hq⟩
      replace hg := GN.trans hg hq
      (try replace hA := IntsAt.gn hA hq)
      (try replace hD := IntsAt.gn hD hq)
      (try replace hL := IntsAt.gn hL hq)
      clear hq
      go_wp2_with fail
      refine (imm_any _ (by assumption) _ _ (dnl 12 1 ++ dnl 6 5) [5, 4, 3, 2, 7, 6] false (by decide) (by decide) (by decide) _ hg hA hB).mono ?_
      rintro _ _ ⟨rfl, hq⟩
      replace hg := GN.trans hg hq
      (try replace hA := IntsAt.gn hA hq)
      (try replace hD := IntsAt.gn hD hq)
      (try replace hL := IntsAt.gn hL hq)
      clear hq
      go_wp2_with (first | (go_at_call 54; refine (rformI_any _ _ _ _ _ _).mono ?_; rintro _ _ ⟨rfl, hq⟩; replace hg := GN.trans hg hq; (try replace hA := IntsAt.gn hA hq); (try replace hD := IntsAt.gn hD hq); (try replace hB := IntsAt.gn hB hq); (try replace hL := IntsAt.gn hL hq); clear hq))
      go_ret
      exact ⟨congrArg (fun x : Nat => Ending.returned (Value.int .u32 (x : Int))) ((twoK_2 _ _ _ _ _ _ _ _ (unhide Hz0)).symm.trans (unhide Hfin)), hg⟩
    · have Hz0 := hide hz0
      have zi0 : (((d : Nat) : Int) == 0) = true := by
        have := natBEq (d) 0
        rw [hz0] at this
        exact this
      clear hz0
      go_wp2_with (first | (go_at_call 54; refine (rformI_any _ _ _ _ _ _).mono ?_; rintro _ _ ⟨rfl, hq⟩; replace hg := GN.trans hg hq; (try replace hA := IntsAt.gn hA hq); (try replace hD := IntsAt.gn hD hq); (try replace hB := IntsAt.gn hB hq); (try replace hL := IntsAt.gn hL hq); clear hq))
      go_ret
      exact ⟨congrArg (fun x : Nat => Ending.returned (Value.int .u32 (x : Int))) ((twoK_3 _ _ _ _ _ _ _ _ (unhide Hz0)).symm.trans (unhide Hfin)), hg⟩
  · cases hz0 : (d == 0)
    · have Hz0 := hide hz0
      have zi0 : (((d : Nat) : Int) == 0) = false := by
        have := natBEq (d) 0
        rw [hz0] at this
        exact this
      clear hz0
      go_wp2_with fail
      refine (list40_any _).mono ?_
      rintro _ _ ⟨vB, rfl, hB, hq⟩
      replace hg := GN.trans hg hq
      (try replace hA := IntsAt.gn hA hq)
      (try replace hD := IntsAt.gn hD hq)
      (try replace hL := IntsAt.gn hL hq)
      clear hq
      go_wp2_with fail
      refine (imm_any _ (by assumption) _ _ (dnl 12 1 ++ dnl 6 5) [5, 4, 3, 8, 7, 6] false (by decide) (by decide) (by decide) _ hg hA hB).mono ?_
      rintro _ _ ⟨rfl, hq⟩
      replace hg := GN.trans hg hq
      (try replace hA := IntsAt.gn hA hq)
      (try replace hD := IntsAt.gn hD hq)
      (try replace hL := IntsAt.gn hL hq)
      clear hq
      go_wp2_with (first | (go_at_call 54; refine (rformI_any _ _ _ _ _ _).mono ?_; rintro _ _ ⟨rfl, hq⟩; replace hg := GN.trans hg hq; (try replace hA := IntsAt.gn hA hq); (try replace hD := IntsAt.gn hD hq); (try replace hB := IntsAt.gn hB hq); (try replace hL := IntsAt.gn hL hq); clear hq))
      go_ret
      exact ⟨congrArg (fun x : Nat => Ending.returned (Value.int .u32 (x : Int))) ((twoK_4 _ _ _ _ _ _ _ _ (unhide Hz0)).symm.trans (unhide Hfin)), hg⟩
    · have Hz0 := hide hz0
      have zi0 : (((d : Nat) : Int) == 0) = true := by
        have := natBEq (d) 0
        rw [hz0] at this
        exact this
      clear hz0
      go_wp2_with (first | (go_at_call 54; refine (rformI_any _ _ _ _ _ _).mono ?_; rintro _ _ ⟨rfl, hq⟩; replace hg := GN.trans hg hq; (try replace hA := IntsAt.gn hA hq); (try replace hD := IntsAt.gn hD hq); (try replace hB := IntsAt.gn hB hq); (try replace hL := IntsAt.gn hL hq); clear hq))
      go_ret
      exact ⟨congrArg (fun x : Nat => Ending.returned (Value.int .u32 (x : Int))) ((twoK_5 _ _ _ _ _ _ _ _ (unhide Hz0)).symm.trans (unhide Hfin)), hg⟩
  · have hbn : b = 0 ∨ b = 1 := by omega
    clear hbb
    rcases hbn with rfl | rfl
    · cases hz0 : (t == 0)
      · have Hz0 := hide hz0
        have zi0 : (((t : Nat) : Int) == 0) = false := by
          have := natBEq (t) 0
          rw [hz0] at this
          exact this
        clear hz0
        go_wp2_with (first | (go_at_call 49; refine (bit_any _ _ (by assumption) (by decide) _).mono ?_; rintro _ _ ⟨rfl, hq⟩; replace hg := GN.trans hg hq; (try replace hA := IntsAt.gn hA hq); (try replace hD := IntsAt.gn hD hq); (try replace hB := IntsAt.gn hB hq); (try replace hL := IntsAt.gn hL hq); clear hq) | (go_at_call 54; refine (rformI_any _ _ _ _ _ _).mono ?_; rintro _ _ ⟨rfl, hq⟩; replace hg := GN.trans hg hq; (try replace hA := IntsAt.gn hA hq); (try replace hD := IntsAt.gn hD hq); (try replace hB := IntsAt.gn hB hq); (try replace hL := IntsAt.gn hL hq); clear hq) | (go_at_call 59; refine (rformR_any _ _ _ _ _ _ _).mono ?_; rintro _ _ ⟨rfl, hq⟩; replace hg := GN.trans hg hq; (try replace hA := IntsAt.gn hA hq); (try replace hD := IntsAt.gn hD hq); (try replace hB := IntsAt.gn hB hq); (try replace hL := IntsAt.gn hL hq); clear hq))
        go_ret
        exact ⟨congrArg (fun x : Nat => Ending.returned (Value.int .u32 (x : Int))) ((twoK_6 _ _ _ _ _ _ _ (unhide Hz0)).symm.trans (unhide Hfin)), hg⟩
      · have Hz0 := hide hz0
        have zi0 : (((t : Nat) : Int) == 0) = true := by
          have := natBEq (t) 0
          rw [hz0] at this
          exact this
        clear hz0
        cases hz1 : (d == 0)
        · have Hz1 := hide hz1
          have zi1 : (((d : Nat) : Int) == 0) = false := by
            have := natBEq (d) 0
            rw [hz1] at this
            exact this
          clear hz1
          go_wp2_with (first | (go_at_call 49; refine (bit_any _ _ (by assumption) (by decide) _).mono ?_; rintro _ _ ⟨rfl, hq⟩; replace hg := GN.trans hg hq; (try replace hA := IntsAt.gn hA hq); (try replace hD := IntsAt.gn hD hq); (try replace hB := IntsAt.gn hB hq); (try replace hL := IntsAt.gn hL hq); clear hq) | (go_at_call 54; refine (rformI_any _ _ _ _ _ _).mono ?_; rintro _ _ ⟨rfl, hq⟩; replace hg := GN.trans hg hq; (try replace hA := IntsAt.gn hA hq); (try replace hD := IntsAt.gn hD hq); (try replace hB := IntsAt.gn hB hq); (try replace hL := IntsAt.gn hL hq); clear hq) | (go_at_call 59; refine (rformR_any _ _ _ _ _ _ _).mono ?_; rintro _ _ ⟨rfl, hq⟩; replace hg := GN.trans hg hq; (try replace hA := IntsAt.gn hA hq); (try replace hD := IntsAt.gn hD hq); (try replace hB := IntsAt.gn hB hq); (try replace hL := IntsAt.gn hL hq); clear hq))
          go_ret
          exact ⟨congrArg (fun x : Nat => Ending.returned (Value.int .u32 (x : Int))) ((twoK_7 _ _ _ _ _ _ _ (unhide Hz0) (unhide Hz1)).symm.trans (unhide Hfin)), hg⟩
        · have Hz1 := hide hz1
          have zi1 : (((d : Nat) : Int) == 0) = true := by
            have := natBEq (d) 0
            rw [hz1] at this
            exact this
          clear hz1
          go_wp2_with (first | (go_at_call 49; refine (bit_any _ _ (by assumption) (by decide) _).mono ?_; rintro _ _ ⟨rfl, hq⟩; replace hg := GN.trans hg hq; (try replace hA := IntsAt.gn hA hq); (try replace hD := IntsAt.gn hD hq); (try replace hB := IntsAt.gn hB hq); (try replace hL := IntsAt.gn hL hq); clear hq) | (go_at_call 54; refine (rformI_any _ _ _ _ _ _).mono ?_; rintro _ _ ⟨rfl, hq⟩; replace hg := GN.trans hg hq; (try replace hA := IntsAt.gn hA hq); (try replace hD := IntsAt.gn hD hq); (try replace hB := IntsAt.gn hB hq); (try replace hL := IntsAt.gn hL hq); clear hq) | (go_at_call 59; refine (rformR_any _ _ _ _ _ _ _).mono ?_; rintro _ _ ⟨rfl, hq⟩; replace hg := GN.trans hg hq; (try replace hA := IntsAt.gn hA hq); (try replace hD := IntsAt.gn hD hq); (try replace hB := IntsAt.gn hB hq); (try replace hL := IntsAt.gn hL hq); clear hq))
          go_ret
          exact ⟨congrArg (fun x : Nat => Ending.returned (Value.int .u32 (x : Int))) ((twoK_8 _ _ _ _ _ _ _ (unhide Hz0) (unhide Hz1)).symm.trans (unhide Hfin)), hg⟩
    · cases hz0 : (t == 0)
      · have Hz0 := hide hz0
        have zi0 : (((t : Nat) : Int) == 0) = false := by
          have := natBEq (t) 0
          rw [hz0] at this
          exact this
        clear hz0
        go_wp2_with (first | (go_at_call 49; refine (bit_any _ _ (by assumption) (by decide) _).mono ?_; rintro _ _ ⟨rfl, hq⟩; replace hg := GN.trans hg hq; (try replace hA := IntsAt.gn hA hq); (try replace hD := IntsAt.gn hD hq); (try replace hB := IntsAt.gn hB hq); (try replace hL := IntsAt.gn hL hq); clear hq) | (go_at_call 54; refine (rformI_any _ _ _ _ _ _).mono ?_; rintro _ _ ⟨rfl, hq⟩; replace hg := GN.trans hg hq; (try replace hA := IntsAt.gn hA hq); (try replace hD := IntsAt.gn hD hq); (try replace hB := IntsAt.gn hB hq); (try replace hL := IntsAt.gn hL hq); clear hq) | (go_at_call 59; refine (rformR_any _ _ _ _ _ _ _).mono ?_; rintro _ _ ⟨rfl, hq⟩; replace hg := GN.trans hg hq; (try replace hA := IntsAt.gn hA hq); (try replace hD := IntsAt.gn hD hq); (try replace hB := IntsAt.gn hB hq); (try replace hL := IntsAt.gn hL hq); clear hq))
        go_ret
        exact ⟨congrArg (fun x : Nat => Ending.returned (Value.int .u32 (x : Int))) ((twoK_9 _ _ _ _ _ _ _ (unhide Hz0)).symm.trans (unhide Hfin)), hg⟩
      · have Hz0 := hide hz0
        have zi0 : (((t : Nat) : Int) == 0) = true := by
          have := natBEq (t) 0
          rw [hz0] at this
          exact this
        clear hz0
        cases hz1 : (d == 0)
        · have Hz1 := hide hz1
          have zi1 : (((d : Nat) : Int) == 0) = false := by
            have := natBEq (d) 0
            rw [hz1] at this
            exact this
          clear hz1
          go_wp2_with (first | (go_at_call 49; refine (bit_any _ _ (by assumption) (by decide) _).mono ?_; rintro _ _ ⟨rfl, hq⟩; replace hg := GN.trans hg hq; (try replace hA := IntsAt.gn hA hq); (try replace hD := IntsAt.gn hD hq); (try replace hB := IntsAt.gn hB hq); (try replace hL := IntsAt.gn hL hq); clear hq) | (go_at_call 54; refine (rformI_any _ _ _ _ _ _).mono ?_; rintro _ _ ⟨rfl, hq⟩; replace hg := GN.trans hg hq; (try replace hA := IntsAt.gn hA hq); (try replace hD := IntsAt.gn hD hq); (try replace hB := IntsAt.gn hB hq); (try replace hL := IntsAt.gn hL hq); clear hq) | (go_at_call 59; refine (rformR_any _ _ _ _ _ _ _).mono ?_; rintro _ _ ⟨rfl, hq⟩; replace hg := GN.trans hg hq; (try replace hA := IntsAt.gn hA hq); (try replace hD := IntsAt.gn hD hq); (try replace hB := IntsAt.gn hB hq); (try replace hL := IntsAt.gn hL hq); clear hq))
          go_ret
          exact ⟨congrArg (fun x : Nat => Ending.returned (Value.int .u32 (x : Int))) ((twoK_10 _ _ _ _ _ _ _ (unhide Hz0) (unhide Hz1)).symm.trans (unhide Hfin)), hg⟩
        · have Hz1 := hide hz1
          have zi1 : (((d : Nat) : Int) == 0) = true := by
            have := natBEq (d) 0
            rw [hz1] at this
            exact this
          clear hz1
          go_wp2_with (first | (go_at_call 49; refine (bit_any _ _ (by assumption) (by decide) _).mono ?_; rintro _ _ ⟨rfl, hq⟩; replace hg := GN.trans hg hq; (try replace hA := IntsAt.gn hA hq); (try replace hD := IntsAt.gn hD hq); (try replace hB := IntsAt.gn hB hq); (try replace hL := IntsAt.gn hL hq); clear hq) | (go_at_call 54; refine (rformI_any _ _ _ _ _ _).mono ?_; rintro _ _ ⟨rfl, hq⟩; replace hg := GN.trans hg hq; (try replace hA := IntsAt.gn hA hq); (try replace hD := IntsAt.gn hD hq); (try replace hB := IntsAt.gn hB hq); (try replace hL := IntsAt.gn hL hq); clear hq) | (go_at_call 59; refine (rformR_any _ _ _ _ _ _ _).mono ?_; rintro _ _ ⟨rfl, hq⟩; replace hg := GN.trans hg hq; (try replace hA := IntsAt.gn hA hq); (try replace hD := IntsAt.gn hD hq); (try replace hB := IntsAt.gn hB hq); (try replace hL := IntsAt.gn hL hq); clear hq))
          go_ret
          exact ⟨congrArg (fun x : Nat => Ending.returned (Value.int .u32 (x : Int))) ((twoK_11 _ _ _ _ _ _ _ (unhide Hz0) (unhide Hz1)).symm.trans (unhide Hfin)), hg⟩
  · go_wp2_with fail
    refine (list40_any _).mono ?_
    rintro _ _ ⟨vB, rfl, hB, hq⟩
    replace hg := GN.trans hg hq
    (try replace hA := IntsAt.gn hA hq)
    (try replace hD := IntsAt.gn hD hq)
    (try replace hL := IntsAt.gn hL hq)
    clear hq
    go_wp2_with fail
    refine (imm_any _ (by assumption) _ _ (dnl 12 6 ++ dnl (-1) 0) [5, 4, 3, 8, 7, 6] false (by decide) (by decide) (by decide) _ hg hD hB).mono ?_
    rintro _ _ ⟨rfl, hq⟩
    replace hg := GN.trans hg hq
    (try replace hA := IntsAt.gn hA hq)
    (try replace hD := IntsAt.gn hD hq)
    (try replace hL := IntsAt.gn hL hq)
    clear hq
    go_wp2_with (first | (go_at_call 55; refine (rformS_any _ _ _ _ _ _).mono ?_; rintro _ _ ⟨rfl, hq⟩; replace hg := GN.trans hg hq; (try replace hA := IntsAt.gn hA hq); (try replace hD := IntsAt.gn hD hq); (try replace hB := IntsAt.gn hB hq); (try replace hL := IntsAt.gn hL hq); clear hq))
    go_ret
    exact ⟨congrArg (fun x : Nat => Ending.returned (Value.int .u32 (x : Int))) ((twoK_12 _ _ _ _ _ _ _ _).symm.trans (unhide Hfin)), hg⟩
  · go_wp2_with fail
    refine (list41_any _).mono ?_
    rintro _ _ ⟨vB, rfl, hB, hq⟩
    replace hg := GN.trans hg hq
    (try replace hA := IntsAt.gn hA hq)
    (try replace hD := IntsAt.gn hD hq)
    (try replace hL := IntsAt.gn hL hq)
    clear hq
    go_wp2_with fail
    refine (imm_any _ (by assumption) _ _ (dnl 12 6 ++ dnl (-1) 0) [5, 4, 3, 2, 7, 6] false (by decide) (by decide) (by decide) _ hg hD hB).mono ?_
    rintro _ _ ⟨rfl, hq⟩
    replace hg := GN.trans hg hq
    (try replace hA := IntsAt.gn hA hq)
    (try replace hD := IntsAt.gn hD hq)
    (try replace hL := IntsAt.gn hL hq)
    clear hq
    go_wp2_with (first | (go_at_call 55; refine (rformS_any _ _ _ _ _ _).mono ?_; rintro _ _ ⟨rfl, hq⟩; replace hg := GN.trans hg hq; (try replace hA := IntsAt.gn hA hq); (try replace hD := IntsAt.gn hD hq); (try replace hB := IntsAt.gn hB hq); (try replace hL := IntsAt.gn hL hq); clear hq))
    go_ret
    exact ⟨congrArg (fun x : Nat => Ending.returned (Value.int .u32 (x : Int))) ((twoK_13 _ _ _ _ _ _ _ _).symm.trans (unhide Hfin)), hg⟩
  · go_wp2_with fail
    refine (list40_any _).mono ?_
    rintro _ _ ⟨vB, rfl, hB, hq⟩
    replace hg := GN.trans hg hq
    (try replace hA := IntsAt.gn hA hq)
    (try replace hD := IntsAt.gn hD hq)
    (try replace hL := IntsAt.gn hL hq)
    clear hq
    go_wp2_with fail
    refine (imm_any _ (by assumption) _ _ (dnl 12 6 ++ dnl (-1) 0) [5, 4, 3, 8, 7, 6] false (by decide) (by decide) (by decide) _ hg hD hB).mono ?_
    rintro _ _ ⟨rfl, hq⟩
    replace hg := GN.trans hg hq
    (try replace hA := IntsAt.gn hA hq)
    (try replace hD := IntsAt.gn hD hq)
    (try replace hL := IntsAt.gn hL hq)
    clear hq
    go_wp2_with (first | (go_at_call 55; refine (rformS_any _ _ _ _ _ _).mono ?_; rintro _ _ ⟨rfl, hq⟩; replace hg := GN.trans hg hq; (try replace hA := IntsAt.gn hA hq); (try replace hD := IntsAt.gn hD hq); (try replace hB := IntsAt.gn hB hq); (try replace hL := IntsAt.gn hL hq); clear hq))
    go_ret
    exact ⟨congrArg (fun x : Nat => Ending.returned (Value.int .u32 (x : Int))) ((twoK_14 _ _ _ _ _ _ _ _).symm.trans (unhide Hfin)), hg⟩
end Go.Proofs.YtblbgalpkodibaaDoor
