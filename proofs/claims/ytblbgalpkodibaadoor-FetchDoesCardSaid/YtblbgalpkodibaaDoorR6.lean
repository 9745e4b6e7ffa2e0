/- Layer 4: the document's table, column 1. -/
import Derived.Test.YtblbgalpkodibaaDoorR4
import Derived.Test.YtblbgalpkodibaaDoorS3
namespace Go.Proofs.YtblbgalpkodibaaDoor
open Go.RowKit

def oneK (k d x y i s aw p jm i4 s1 a c q : Nat) : Nat := (bif k == 0 then rI i d 0 d 19 else (bif k == 1 then (bif d == 0 then 0 else rI i d 0 d 27) else (bif k == 2 then rI i 0 0 d 19 else (bif k == 3 then (bif d == 2 then (bif p != 0 then rI p 2 0 2 19 else 0) else (bif i != 0 then rU i4 d 55 else 0)) else (bif k == 5 then rJ jm 0 111 else (bif k == 6 then rB aw 0 x 0 99 else (bif k == 7 then rB aw 0 x 1 99 else (bif a == 0 then rI s x 5 x 19 else (bif a == 1 then rI s1 x 5 x 19 else (bif a == 2 then rI i x 7 x 19 else (bif c == 0 then (bif q == 0 then rR 32 y x 0 x 51 else (bif q == 1 then rR 0 y x 4 x 51 else (bif q == 2 then rR 0 y x 6 x 51 else rR 0 y x 7 x 51))) else (bif q == 0 then rR 32 y x 0 x 59 else (bif q == 1 then rR 0 y x 0 x 59 else 0)))))))))))))
def oneN (h : Nat) : Nat := oneK (prt h 15 13) (prt h 11 7) ((8 + prt h 9 7) % 4294967296) ((8 + prt h 4 2) % 4294967296) (immN h (dnl 12 1 ++ dnl 6 5) [5, 4, 3, 2, 1, 0] true) (immN h (dnl 12 1 ++ dnl 6 5) [5, 4, 3, 2, 1, 0] false) (immN h (dnl 12 3 ++ dnl 6 5) [8, 4, 3, 7, 6, 2, 1, 5] true) (immN h (dnl 12 1 ++ dnl 6 5) [9, 4, 6, 8, 7, 5] true) (immN h (dnl 12 11 ++ dnl (-1) 0) [11, 4, 9, 8, 10, 6, 7, 3, 2, 1, 5] true) ((immN h (dnl 12 1 ++ dnl 6 5) [5, 4, 3, 2, 1, 0] true) * 4096 % 4294967296) ((immN h (dnl 12 1 ++ dnl 6 5) [5, 4, 3, 2, 1, 0] false + 1024) % 4294967296) (prt h 11 10) (prt h 12 12) (prt h 6 5)
theorem oneK_0 (d x y i s aw p jm i4 s1 a c q : Nat) : oneK 0 d x y i s aw p jm i4 s1 a c q = rI i d 0 d 19 := by unfold oneK; rw [condT (b := 0 == 0) rfl]
theorem oneK_1 (d x y i s aw p jm i4 s1 a c q : Nat) (z0 : (d == 0) = false) : oneK 1 d x y i s aw p jm i4 s1 a c q = rI i d 0 d 27 := by unfold oneK; rw [condF (b := 1 == 0) rfl, condT (b := 1 == 1) rfl, condF z0]
theorem oneK_2 (d x y i s aw p jm i4 s1 a c q : Nat) (z0 : (d == 0) = true) : oneK 1 d x y i s aw p jm i4 s1 a c q = 0 := by unfold oneK; rw [condF (b := 1 == 0) rfl, condT (b := 1 == 1) rfl, condT z0]
theorem oneK_3 (d x y i s aw p jm i4 s1 a c q : Nat) : oneK 2 d x y i s aw p jm i4 s1 a c q = rI i 0 0 d 19 := by unfold oneK; rw [condF (b := 2 == 0) rfl, condF (b := 2 == 1) rfl, condT (b := 2 == 2) rfl]
theorem oneK_4 (d x y i s aw p jm i4 s1 a c q : Nat) (z0 : (d == 2) = false) (z1 : (i != 0) = false) : oneK 3 d x y i s aw p jm i4 s1 a c q = 0 := by unfold oneK; rw [condF (b := 3 == 0) rfl, condF (b := 3 == 1) rfl, condF (b := 3 == 2) rfl, condT (b := 3 == 3) rfl, condF z0, condF z1]
theorem oneK_5 (d x y i s aw p jm i4 s1 a c q : Nat) (z0 : (d == 2) = false) (z1 : (i != 0) = true) : oneK 3 d x y i s aw p jm i4 s1 a c q = rU i4 d 55 := by unfold oneK; rw [condF (b := 3 == 0) rfl, condF (b := 3 == 1) rfl, condF (b := 3 == 2) rfl, condT (b := 3 == 3) rfl, condF z0, condT z1]
theorem oneK_6 (d x y i s aw p jm i4 s1 a c q : Nat) (z0 : (d == 2) = true) (z1 : (p != 0) = false) : oneK 3 d x y i s aw p jm i4 s1 a c q = 0 := by unfold oneK; rw [condF (b := 3 == 0) rfl, condF (b := 3 == 1) rfl, condF (b := 3 == 2) rfl, condT (b := 3 == 3) rfl, condT z0, condF z1]
theorem oneK_7 (d x y i s aw p jm i4 s1 a c q : Nat) (z0 : (d == 2) = true) (z1 : (p != 0) = true) : oneK 3 d x y i s aw p jm i4 s1 a c q = rI p 2 0 2 19 := by unfold oneK; rw [condF (b := 3 == 0) rfl, condF (b := 3 == 1) rfl, condF (b := 3 == 2) rfl, condT (b := 3 == 3) rfl, condT z0, condT z1]
theorem oneK_8 (d x y i s aw p jm i4 s1 c q : Nat) : oneK 4 d x y i s aw p jm i4 s1 0 c q = rI s x 5 x 19 := by unfold oneK; rw [condF (b := 4 == 0) rfl, condF (b := 4 == 1) rfl, condF (b := 4 == 2) rfl, condF (b := 4 == 3) rfl, condF (b := 4 == 5) rfl, condF (b := 4 == 6) rfl, condF (b := 4 == 7) rfl, condT (b := 0 == 0) rfl]
theorem oneK_9 (d x y i s aw p jm i4 s1 c q : Nat) : oneK 4 d x y i s aw p jm i4 s1 1 c q = rI s1 x 5 x 19 := by unfold oneK; rw [condF (b := 4 == 0) rfl, condF (b := 4 == 1) rfl, condF (b := 4 == 2) rfl, condF (b := 4 == 3) rfl, condF (b := 4 == 5) rfl, condF (b := 4 == 6) rfl, condF (b := 4 == 7) rfl, condF (b := 1 == 0) rfl, condT (b := 1 == 1) rfl]
theorem oneK_10 (d x y i s aw p jm i4 s1 c q : Nat) : oneK 4 d x y i s aw p jm i4 s1 2 c q = rI i x 7 x 19 := by unfold oneK; rw [condF (b := 4 == 0) rfl, condF (b := 4 == 1) rfl, condF (b := 4 == 2) rfl, condF (b := 4 == 3) rfl, condF (b := 4 == 5) rfl, condF (b := 4 == 6) rfl, condF (b := 4 == 7) rfl, condF (b := 2 == 0) rfl, condF (b := 2 == 1) rfl, condT (b := 2 == 2) rfl]
theorem oneK_11 (d x y i s aw p jm i4 s1 : Nat) : oneK 4 d x y i s aw p jm i4 s1 3 0 0 = rR 32 y x 0 x 51 := by unfold oneK; rw [condF (b := 4 == 0) rfl, condF (b := 4 == 1) rfl, condF (b := 4 == 2) rfl, condF (b := 4 == 3) rfl, condF (b := 4 == 5) rfl, condF (b := 4 == 6) rfl, condF (b := 4 == 7) rfl, condF (b := 3 == 0) rfl, condF (b := 3 == 1) rfl, condF (b := 3 == 2) rfl, condT (b := 0 == 0) rfl, condT (b := 0 == 0) rfl]
theorem oneK_12 (d x y i s aw p jm i4 s1 : Nat) : oneK 4 d x y i s aw p jm i4 s1 3 0 1 = rR 0 y x 4 x 51 := by unfold oneK; rw [condF (b := 4 == 0) rfl, condF (b := 4 == 1) rfl, condF (b := 4 == 2) rfl, condF (b := 4 == 3) rfl, condF (b := 4 == 5) rfl, condF (b := 4 == 6) rfl, condF (b := 4 == 7) rfl, condF (b := 3 == 0) rfl, condF (b := 3 == 1) rfl, condF (b := 3 == 2) rfl, condT (b := 0 == 0) rfl, condF (b := 1 == 0) rfl, condT (b := 1 == 1) rfl]
theorem oneK_13 (d x y i s aw p jm i4 s1 : Nat) : oneK 4 d x y i s aw p jm i4 s1 3 0 2 = rR 0 y x 6 x 51 := by unfold oneK; rw [condF (b := 4 == 0) rfl, condF (b := 4 == 1) rfl, condF (b := 4 == 2) rfl, condF (b := 4 == 3) rfl, condF (b := 4 == 5) rfl, condF (b := 4 == 6) rfl, condF (b := 4 == 7) rfl, condF (b := 3 == 0) rfl, condF (b := 3 == 1) rfl, condF (b := 3 == 2) rfl, condT (b := 0 == 0) rfl, condF (b := 2 == 0) rfl, condF (b := 2 == 1) rfl, condT (b := 2 == 2) rfl]
theorem oneK_14 (d x y i s aw p jm i4 s1 : Nat) : oneK 4 d x y i s aw p jm i4 s1 3 0 3 = rR 0 y x 7 x 51 := by unfold oneK; rw [condF (b := 4 == 0) rfl, condF (b := 4 == 1) rfl, condF (b := 4 == 2) rfl, condF (b := 4 == 3) rfl, condF (b := 4 == 5) rfl, condF (b := 4 == 6) rfl, condF (b := 4 == 7) rfl, condF (b := 3 == 0) rfl, condF (b := 3 == 1) rfl, condF (b := 3 == 2) rfl, condT (b := 0 == 0) rfl, condF (b := 3 == 0) rfl, condF (b := 3 == 1) rfl, condF (b := 3 == 2) rfl]
theorem oneK_15 (d x y i s aw p jm i4 s1 : Nat) : oneK 4 d x y i s aw p jm i4 s1 3 1 0 = rR 32 y x 0 x 59 := by unfold oneK; rw [condF (b := 4 == 0) rfl, condF (b := 4 == 1) rfl, condF (b := 4 == 2) rfl, condF (b := 4 == 3) rfl, condF (b := 4 == 5) rfl, condF (b := 4 == 6) rfl, condF (b := 4 == 7) rfl, condF (b := 3 == 0) rfl, condF (b := 3 == 1) rfl, condF (b := 3 == 2) rfl, condF (b := 1 == 0) rfl, condT (b := 0 == 0) rfl]
theorem oneK_16 (d x y i s aw p jm i4 s1 : Nat) : oneK 4 d x y i s aw p jm i4 s1 3 1 1 = rR 0 y x 0 x 59 := by unfold oneK; rw [condF (b := 4 == 0) rfl, condF (b := 4 == 1) rfl, condF (b := 4 == 2) rfl, condF (b := 4 == 3) rfl, condF (b := 4 == 5) rfl, condF (b := 4 == 6) rfl, condF (b := 4 == 7) rfl, condF (b := 3 == 0) rfl, condF (b := 3 == 1) rfl, condF (b := 3 == 2) rfl, condF (b := 1 == 0) rfl, condF (b := 1 == 0) rfl, condT (b := 1 == 1) rfl]
theorem oneK_17 (d x y i s aw p jm i4 s1 : Nat) : oneK 4 d x y i s aw p jm i4 s1 3 1 2 = 0 := by unfold oneK; rw [condF (b := 4 == 0) rfl, condF (b := 4 == 1) rfl, condF (b := 4 == 2) rfl, condF (b := 4 == 3) rfl, condF (b := 4 == 5) rfl, condF (b := 4 == 6) rfl, condF (b := 4 == 7) rfl, condF (b := 3 == 0) rfl, condF (b := 3 == 1) rfl, condF (b := 3 == 2) rfl, condF (b := 1 == 0) rfl, condF (b := 2 == 0) rfl, condF (b := 2 == 1) rfl]
theorem oneK_18 (d x y i s aw p jm i4 s1 : Nat) : oneK 4 d x y i s aw p jm i4 s1 3 1 3 = 0 := by unfold oneK; rw [condF (b := 4 == 0) rfl, condF (b := 4 == 1) rfl, condF (b := 4 == 2) rfl, condF (b := 4 == 3) rfl, condF (b := 4 == 5) rfl, condF (b := 4 == 6) rfl, condF (b := 4 == 7) rfl, condF (b := 3 == 0) rfl, condF (b := 3 == 1) rfl, condF (b := 3 == 2) rfl, condF (b := 1 == 0) rfl, condF (b := 3 == 0) rfl, condF (b := 3 == 1) rfl]
theorem oneK_19 (d x y i s aw p jm i4 s1 a c q : Nat) : oneK 5 d x y i s aw p jm i4 s1 a c q = rJ jm 0 111 := by unfold oneK; rw [condF (b := 5 == 0) rfl, condF (b := 5 == 1) rfl, condF (b := 5 == 2) rfl, condF (b := 5 == 3) rfl, condT (b := 5 == 5) rfl]
theorem oneK_20 (d x y i s aw p jm i4 s1 a c q : Nat) : oneK 6 d x y i s aw p jm i4 s1 a c q = rB aw 0 x 0 99 := by unfold oneK; rw [condF (b := 6 == 0) rfl, condF (b := 6 == 1) rfl, condF (b := 6 == 2) rfl, condF (b := 6 == 3) rfl, condF (b := 6 == 5) rfl, condT (b := 6 == 6) rfl]
theorem oneK_21 (d x y i s aw p jm i4 s1 a c q : Nat) : oneK 7 d x y i s aw p jm i4 s1 a c q = rB aw 0 x 1 99 := by unfold oneK; rw [condF (b := 7 == 0) rfl, condF (b := 7 == 1) rfl, condF (b := 7 == 2) rfl, condF (b := 7 == 3) rfl, condF (b := 7 == 5) rfl, condF (b := 7 == 6) rfl, condT (b := 7 == 7) rfl]
set_option maxRecDepth 100000 in
set_option maxHeartbeats 2000000 in
theorem one_any {w0 : World} (_hT : Tab w0) (h : Nat) (hh : h < 65536) (w : World) (hg : GN w0 w) : Calls Tryd.prog 35 #[.int .u16 h] w fun e w' => e = .returned (.int .u32 (oneN h : Nat)) ∧ GN w0 w' := by
  have hfin : oneN h = oneK (prt h 15 13) (prt h 11 7) ((8 + prt h 9 7) % 4294967296) ((8 + prt h 4 2) % 4294967296) (immN h (dnl 12 1 ++ dnl 6 5) [5, 4, 3, 2, 1, 0] true) (immN h (dnl 12 1 ++ dnl 6 5) [5, 4, 3, 2, 1, 0] false) (immN h (dnl 12 3 ++ dnl 6 5) [8, 4, 3, 7, 6, 2, 1, 5] true) (immN h (dnl 12 1 ++ dnl 6 5) [9, 4, 6, 8, 7, 5] true) (immN h (dnl 12 11 ++ dnl (-1) 0) [11, 4, 9, 8, 10, 6, 7, 3, 2, 1, 5] true) ((immN h (dnl 12 1 ++ dnl 6 5) [5, 4, 3, 2, 1, 0] true) * 4096 % 4294967296) ((immN h (dnl 12 1 ++ dnl 6 5) [5, 4, 3, 2, 1, 0] false + 1024) % 4294967296) (prt h 11 10) (prt h 12 12) (prt h 6 5) := rfl
  have hkb := prt_lt h 15 13 (by decide)
  rw [show 2 ^ (15 + 1 - 13) = 8 from rfl] at hkb
  have hab := prt_lt h 11 10 (by decide)
  rw [show 2 ^ (11 + 1 - 10) = 4 from rfl] at hab
  have hcb := prt_lt h 12 12 (by decide)
  rw [show 2 ^ (12 + 1 - 12) = 2 from rfl] at hcb
  have hqb := prt_lt h 6 5 (by decide)
  rw [show 2 ^ (6 + 1 - 5) = 4 from rfl] at hqb
  have ex := add8 (prt h 9 7)
  have ey := add8 (prt h 4 2)
  have es := add1024 (immN h (dnl 12 1 ++ dnl 6 5) [5, 4, 3, 2, 1, 0] false)
  have ei := shl32 (immN h (dnl 12 1 ++ dnl 6 5) [5, 4, 3, 2, 1, 0] true) 4096
  rw [Int.cast_ofNat_Int] at ei
  generalize (8 + prt h 9 7) % 4294967296 = x at *
  generalize (8 + prt h 4 2) % 4294967296 = y at *
  generalize (immN h (dnl 12 1 ++ dnl 6 5) [5, 4, 3, 2, 1, 0] false + 1024) % 4294967296 = s1 at *
  generalize (immN h (dnl 12 1 ++ dnl 6 5) [5, 4, 3, 2, 1, 0] true) * 4096 % 4294967296 = i4 at *
  generalize hk0 : prt h 15 13 = k at *
  generalize hd0 : prt h 11 7 = d at *
  generalize ha0 : prt h 11 10 = a at *
  generalize hc0 : prt h 12 12 = c at *
  generalize hq0 : prt h 6 5 = q at *
  generalize hi0 : immN h (dnl 12 1 ++ dnl 6 5) [5, 4, 3, 2, 1, 0] true = i at *
  generalize hs0 : immN h (dnl 12 1 ++ dnl 6 5) [5, 4, 3, 2, 1, 0] false = s at *
  generalize hw0 : immN h (dnl 12 3 ++ dnl 6 5) [8, 4, 3, 7, 6, 2, 1, 5] true = aw at *
  generalize hp0 : immN h (dnl 12 1 ++ dnl 6 5) [9, 4, 6, 8, 7, 5] true = p at *
  generalize hj0 : immN h (dnl 12 11 ++ dnl (-1) 0) [11, 4, 9, 8, 10, 6, 7, 3, 2, 1, 5] true = jm at *
  obtain ⟨ans, hans⟩ : ∃ a, oneN h = a := ⟨_, rfl⟩
  rw [hans]
  rw [hans] at hfin
  clear hans
  have Hfin := hide hfin.symm
  clear hfin
  go_enter Tryd.func35, Tryd.ntmps35
  go_upto_region 4 with (first | (go_at_call 33; refine (rbits_any _ _ _ (by assumption) (by decide) (by decide) _).mono ?_; rintro _ _ ⟨rfl, hq⟩; replace hg := GN.trans hg hq; (try replace hA := IntsAt.gn hA hq); (try replace hD := IntsAt.gn hD hq); (try replace hB := IntsAt.gn hB hq); (try replace hL := IntsAt.gn hL hq); clear hq))
  go_wp2_with fail
  refine (rows_any 12 12 6 2 1 5 (by decide) (by decide) (by decide) (by decide) (by decide) (by decide) (by decide) (by decide) (by decide) _).mono ?_
  rintro _ _ ⟨vhA, rfl, hA, hq⟩
  replace hg := GN.trans hg hq
  (try replace hD := IntsAt.gn hD hq)
  (try replace hL := IntsAt.gn hL hq)
  clear hq
  go_wp2_with fail
  refine (imm_any _ (by assumption) _ _ (dnl 12 1 ++ dnl 6 5) [5, 4, 3, 2, 1, 0] true (by decide) (by decide) (by decide) _ (GN.alloc hg _) (IntsAt.gn hA (GN.alloc (GN.refl _) _)) (new_ints [5, 4, 3, 2, 1, 0] _)).mono ?_
  rintro _ _ ⟨rfl, hq⟩
  replace hq := GN.trans (GN.alloc (GN.refl _) _) hq
  replace hg := GN.trans hg hq
  (try replace hA := IntsAt.gn hA hq)
  (try replace hD := IntsAt.gn hD hq)
  (try replace hL := IntsAt.gn hL hq)
  clear hq
  go_wp2_with fail
  refine (imm_any _ (by assumption) _ _ (dnl 12 1 ++ dnl 6 5) [5, 4, 3, 2, 1, 0] false (by decide) (by decide) (by decide) _ (GN.alloc hg _) (IntsAt.gn hA (GN.alloc (GN.refl _) _)) (new_ints [5, 4, 3, 2, 1, 0] _)).mono ?_
  rintro _ _ ⟨rfl, hq⟩
  replace hq := GN.trans (GN.alloc (GN.refl _) _) hq
  replace hg := GN.trans hg hq
  (try replace hA := IntsAt.gn hA hq)
  (try replace hD := IntsAt.gn hD hq)
  (try replace hL := IntsAt.gn hL hq)
  clear hq
  go_wp2_with fail
  refine (rows_any 12 10 6 2 3 5 (by decide) (by decide) (by decide) (by decide) (by decide) (by decide) (by decide) (by decide) (by decide) _).mono ?_
  rintro _ _ ⟨vhD, rfl, hD, hq⟩
  replace hg := GN.trans hg hq
  (try replace hA := IntsAt.gn hA hq)
  (try replace hL := IntsAt.gn hL hq)
  clear hq
  go_wp2_with fail
  refine (imm_any _ (by assumption) _ _ (dnl 12 3 ++ dnl 6 5) [8, 4, 3, 7, 6, 2, 1, 5] true (by decide) (by decide) (by decide) _ (GN.alloc hg _) (IntsAt.gn hD (GN.alloc (GN.refl _) _)) (new_ints [8, 4, 3, 7, 6, 2, 1, 5] _)).mono ?_
  rintro _ _ ⟨rfl, hq⟩
  replace hq := GN.trans (GN.alloc (GN.refl _) _) hq
  replace hg := GN.trans hg hq
  (try replace hA := IntsAt.gn hA hq)
  (try replace hD := IntsAt.gn hD hq)
  (try replace hL := IntsAt.gn hL hq)
  clear hq
  go_upto_region 9 with (first | (go_at_call 33; refine (rbits_any _ _ _ (by assumption) (by decide) (by decide) _).mono ?_; rintro _ _ ⟨rfl, hq⟩; replace hg := GN.trans hg hq; (try replace hA := IntsAt.gn hA hq); (try replace hD := IntsAt.gn hD hq); (try replace hB := IntsAt.gn hB hq); (try replace hL := IntsAt.gn hL hq); clear hq))
  clear hk0 hi0 hs0 hw0
  have hkn : k = 0 ∨ k = 1 ∨ k = 2 ∨ k = 3 ∨ k = 4 ∨ k = 5 ∨ k = 6 ∨ k = 7 := by omega
  clear hkb
  rcases hkn with rfl | rfl | rfl | rfl | rfl | rfl | rfl | rfl
  · go_wp2_with (first | (go_at_call 54; refine (rformI_any _ _ _ _ _ _).mono ?_; rintro _ _ ⟨rfl, hq⟩; replace hg := GN.trans hg hq; (try replace hA := IntsAt.gn hA hq); (try replace hD := IntsAt.gn hD hq); (try replace hB := IntsAt.gn hB hq); (try replace hL := IntsAt.gn hL hq); clear hq))
    go_ret
    exact ⟨congrArg (fun x : Nat => Ending.returned (Value.int .u32 (x : Int))) ((oneK_0 _ _ _ _ _ _ _ _ _ _ _ _ _).symm.trans (unhide Hfin)), hg⟩
  · cases hz0 : (d == 0)
    · have Hz0 := hide hz0
      have zi0 : (((d : Nat) : Int) == 0) = false := by
        have := natBEq (d) 0
        rw [hz0] at this
        exact this
      have zn0 : (((d : Nat) : Int) != 0) = true := by unfold bne; rw [zi0]; rfl
      clear hz0
      go_wp2_with (first | (go_at_call 54; refine (rformI_any _ _ _ _ _ _).mono ?_; rintro _ _ ⟨rfl, hq⟩; replace hg := GN.trans hg hq; (try replace hA := IntsAt.gn hA hq); (try replace hD := IntsAt.gn hD hq); (try replace hB := IntsAt.gn hB hq); (try replace hL := IntsAt.gn hL hq); clear hq))
      go_ret
      exact ⟨congrArg (fun x : Nat => Ending.returned (Value.int .u32 (x : Int))) ((oneK_1 _ _ _ _ _ _ _ _ _ _ _ _ _ (unhide Hz0)).symm.trans (unhide Hfin)), hg⟩
    · have Hz0 := hide hz0
      have zi0 : (((d : Nat) : Int) == 0) = true := by
        have := natBEq (d) 0
        rw [hz0] at this
        exact this
      have zn0 : (((d : Nat) : Int) != 0) = false := by unfold bne; rw [zi0]; rfl
      clear hz0
      go_wp2_with (first | (go_at_call 54; refine (rformI_any _ _ _ _ _ _).mono ?_; rintro _ _ ⟨rfl, hq⟩; replace hg := GN.trans hg hq; (try replace hA := IntsAt.gn hA hq); (try replace hD := IntsAt.gn hD hq); (try replace hB := IntsAt.gn hB hq); (try replace hL := IntsAt.gn hL hq); clear hq))
      go_ret
      exact ⟨congrArg (fun x : Nat => Ending.returned (Value.int .u32 (x : Int))) ((oneK_2 _ _ _ _ _ _ _ _ _ _ _ _ _ (unhide Hz0)).symm.trans (unhide Hfin)), hg⟩
  · go_wp2_with (first | (go_at_call 54; refine (rformI_any _ _ _ _ _ _).mono ?_; rintro _ _ ⟨rfl, hq⟩; replace hg := GN.trans hg hq; (try replace hA := IntsAt.gn hA hq); (try replace hD := IntsAt.gn hD hq); (try replace hB := IntsAt.gn hB hq); (try replace hL := IntsAt.gn hL hq); clear hq))
    go_ret
    exact ⟨congrArg (fun x : Nat => Ending.returned (Value.int .u32 (x : Int))) ((oneK_3 _ _ _ _ _ _ _ _ _ _ _ _ _).symm.trans (unhide Hfin)), hg⟩
  · cases hz0 : (d == 2)
    · have Hz0 := hide hz0
      have zi0 : (((d : Nat) : Int) == 2) = false := by
        have := natBEq (d) 2
        rw [hz0] at this
        exact this
      have zn0 : (((d : Nat) : Int) != 2) = true := by unfold bne; rw [zi0]; rfl
      clear hz0
      cases hz1 : (i != 0)
      · have Hz1 := hide hz1
        have zi1 : (((i : Nat) : Int) != 0) = false := by
          have := natBNe (i) 0
          rw [hz1] at this
          exact this
        clear hz1
        go_wp2_with fail
        refine (imm_any _ (by assumption) _ _ (dnl 12 1 ++ dnl 6 5) [9, 4, 6, 8, 7, 5] true (by decide) (by decide) (by decide) _ (GN.alloc hg _) (IntsAt.gn hA (GN.alloc (GN.refl _) _)) (new_ints [9, 4, 6, 8, 7, 5] _)).mono ?_
        rintro _ _ ⟨rfl, hq⟩
        replace hq := GN.trans (GN.alloc (GN.refl _) _) hq
        replace hg := GN.trans hg hq
        (try replace hA := IntsAt.gn hA hq)
        (try replace hD := IntsAt.gn hD hq)
        (try replace hL := IntsAt.gn hL hq)
        clear hq
        go_wp2_with (first | (go_at_call 54; refine (rformI_any _ _ _ _ _ _).mono ?_; rintro _ _ ⟨rfl, hq⟩; replace hg := GN.trans hg hq; (try replace hA := IntsAt.gn hA hq); (try replace hD := IntsAt.gn hD hq); (try replace hB := IntsAt.gn hB hq); (try replace hL := IntsAt.gn hL hq); clear hq) | (go_at_call 56; refine (rformU_any _ _ _ _).mono ?_; rintro _ _ ⟨rfl, hq⟩; replace hg := GN.trans hg hq; (try replace hA := IntsAt.gn hA hq); (try replace hD := IntsAt.gn hD hq); (try replace hB := IntsAt.gn hB hq); (try replace hL := IntsAt.gn hL hq); clear hq))
        go_ret
        exact ⟨congrArg (fun x : Nat => Ending.returned (Value.int .u32 (x : Int))) ((oneK_4 _ _ _ _ _ _ _ _ _ _ _ _ _ (unhide Hz0) (unhide Hz1)).symm.trans (unhide Hfin)), hg⟩
      · have Hz1 := hide hz1
        have zi1 : (((i : Nat) : Int) != 0) = true := by
          have := natBNe (i) 0
          rw [hz1] at this
          exact this
        clear hz1
        go_wp2_with fail
        refine (imm_any _ (by assumption) _ _ (dnl 12 1 ++ dnl 6 5) [9, 4, 6, 8, 7, 5] true (by decide) (by decide) (by decide) _ (GN.alloc hg _) (IntsAt.gn hA (GN.alloc (GN.refl _) _)) (new_ints [9, 4, 6, 8, 7, 5] _)).mono ?_
        rintro _ _ ⟨rfl, hq⟩
        replace hq := GN.trans (GN.alloc (GN.refl _) _) hq
        replace hg := GN.trans hg hq
        (try replace hA := IntsAt.gn hA hq)
        (try replace hD := IntsAt.gn hD hq)
        (try replace hL := IntsAt.gn hL hq)
        clear hq
        go_wp2_with (first | (go_at_call 54; refine (rformI_any _ _ _ _ _ _).mono ?_; rintro _ _ ⟨rfl, hq⟩; replace hg := GN.trans hg hq; (try replace hA := IntsAt.gn hA hq); (try replace hD := IntsAt.gn hD hq); (try replace hB := IntsAt.gn hB hq); (try replace hL := IntsAt.gn hL hq); clear hq) | (go_at_call 56; refine (rformU_any _ _ _ _).mono ?_; rintro _ _ ⟨rfl, hq⟩; replace hg := GN.trans hg hq; (try replace hA := IntsAt.gn hA hq); (try replace hD := IntsAt.gn hD hq); (try replace hB := IntsAt.gn hB hq); (try replace hL := IntsAt.gn hL hq); clear hq))
        go_ret
        exact ⟨congrArg (fun x : Nat => Ending.returned (Value.int .u32 (x : Int))) ((oneK_5 _ _ _ _ _ _ _ _ _ _ _ _ _ (unhide Hz0) (unhide Hz1)).symm.trans (unhide Hfin)), hg⟩
    · have Hz0 := hide hz0
      have zi0 : (((d : Nat) : Int) == 2) = true := by
        have := natBEq (d) 2
        rw [hz0] at this
        exact this
      have zn0 : (((d : Nat) : Int) != 2) = false := by unfold bne; rw [zi0]; rfl
      clear hz0
      cases hz1 : (p != 0)
      · have Hz1 := hide hz1
        have zi1 : (((p : Nat) : Int) != 0) = false := by
          have := natBNe (p) 0
          rw [hz1] at this
          exact this
        clear hz1
        go_wp2_with fail
        refine (imm_any _ (by assumption) _ _ (dnl 12 1 ++ dnl 6 5) [9, 4, 6, 8, 7, 5] true (by decide) (by decide) (by decide) _ (GN.alloc hg _) (IntsAt.gn hA (GN.alloc (GN.refl _) _)) (new_ints [9, 4, 6, 8, 7, 5] _)).mono ?_
        rintro _ _ ⟨rfl, hq⟩
        replace hq := GN.trans (GN.alloc (GN.refl _) _) hq
        replace hg := GN.trans hg hq
        (try replace hA := IntsAt.gn hA hq)
        (try replace hD := IntsAt.gn hD hq)
        (try replace hL := IntsAt.gn hL hq)
        clear hq
        go_wp2_with (first | (go_at_call 54; refine (rformI_any _ _ _ _ _ _).mono ?_; rintro _ _ ⟨rfl, hq⟩; replace hg := GN.trans hg hq; (try replace hA := IntsAt.gn hA hq); (try replace hD := IntsAt.gn hD hq); (try replace hB := IntsAt.gn hB hq); (try replace hL := IntsAt.gn hL hq); clear hq) | (go_at_call 56; refine (rformU_any _ _ _ _).mono ?_; rintro _ _ ⟨rfl, hq⟩; replace hg := GN.trans hg hq; (try replace hA := IntsAt.gn hA hq); (try replace hD := IntsAt.gn hD hq); (try replace hB := IntsAt.gn hB hq); (try replace hL := IntsAt.gn hL hq); clear hq))
        go_ret
        exact ⟨congrArg (fun x : Nat => Ending.returned (Value.int .u32 (x : Int))) ((oneK_6 _ _ _ _ _ _ _ _ _ _ _ _ _ (unhide Hz0) (unhide Hz1)).symm.trans (unhide Hfin)), hg⟩
      · have Hz1 := hide hz1
        have zi1 : (((p : Nat) : Int) != 0) = true := by
          have := natBNe (p) 0
          rw [hz1] at this
          exact this
        clear hz1
        go_wp2_with fail
        refine (imm_any _ (by assumption) _ _ (dnl 12 1 ++ dnl 6 5) [9, 4, 6, 8, 7, 5] true (by decide) (by decide) (by decide) _ (GN.alloc hg _) (IntsAt.gn hA (GN.alloc (GN.refl _) _)) (new_ints [9, 4, 6, 8, 7, 5] _)).mono ?_
        rintro _ _ ⟨rfl, hq⟩
        replace hq := GN.trans (GN.alloc (GN.refl _) _) hq
        replace hg := GN.trans hg hq
        (try replace hA := IntsAt.gn hA hq)
        (try replace hD := IntsAt.gn hD hq)
        (try replace hL := IntsAt.gn hL hq)
        clear hq
        go_wp2_with (first | (go_at_call 54; refine (rformI_any _ _ _ _ _ _).mono ?_; rintro _ _ ⟨rfl, hq⟩; replace hg := GN.trans hg hq; (try replace hA := IntsAt.gn hA hq); (try replace hD := IntsAt.gn hD hq); (try replace hB := IntsAt.gn hB hq); (try replace hL := IntsAt.gn hL hq); clear hq) | (go_at_call 56; refine (rformU_any _ _ _ _).mono ?_; rintro _ _ ⟨rfl, hq⟩; replace hg := GN.trans hg hq; (try replace hA := IntsAt.gn hA hq); (try replace hD := IntsAt.gn hD hq); (try replace hB := IntsAt.gn hB hq); (try replace hL := IntsAt.gn hL hq); clear hq))
        go_ret
        exact ⟨congrArg (fun x : Nat => Ending.returned (Value.int .u32 (x : Int))) ((oneK_7 _ _ _ _ _ _ _ _ _ _ _ _ _ (unhide Hz0) (unhide Hz1)).symm.trans (unhide Hfin)), hg⟩
  · have han : a = 0 ∨ a = 1 ∨ a = 2 ∨ a = 3 := by omega
    clear hab
    rcases han with rfl | rfl | rfl | rfl
    · go_wp2_with (first | (go_at_call 33; refine (rbits_any _ _ _ (by assumption) (by decide) (by decide) _).mono ?_; rintro _ _ ⟨rfl, hq⟩; replace hg := GN.trans hg hq; (try replace hA := IntsAt.gn hA hq); (try replace hD := IntsAt.gn hD hq); (try replace hB := IntsAt.gn hB hq); (try replace hL := IntsAt.gn hL hq); clear hq) | (go_at_call 54; refine (rformI_any _ _ _ _ _ _).mono ?_; rintro _ _ ⟨rfl, hq⟩; replace hg := GN.trans hg hq; (try replace hA := IntsAt.gn hA hq); (try replace hD := IntsAt.gn hD hq); (try replace hB := IntsAt.gn hB hq); (try replace hL := IntsAt.gn hL hq); clear hq) | (go_at_call 59; refine (rformR_any _ _ _ _ _ _ _).mono ?_; rintro _ _ ⟨rfl, hq⟩; replace hg := GN.trans hg hq; (try replace hA := IntsAt.gn hA hq); (try replace hD := IntsAt.gn hD hq); (try replace hB := IntsAt.gn hB hq); (try replace hL := IntsAt.gn hL hq); clear hq))
      go_ret
      exact ⟨congrArg (fun x : Nat => Ending.returned (Value.int .u32 (x : Int))) ((oneK_8 _ _ _ _ _ _ _ _ _ _ _ _).symm.trans (unhide Hfin)), hg⟩
    · go_wp2_with (first | (go_at_call 33; refine (rbits_any _ _ _ (by assumption) (by decide) (by decide) _).mono ?_; rintro _ _ ⟨rfl, hq⟩; replace hg := GN.trans hg hq; (try replace hA := IntsAt.gn hA hq); (try replace hD := IntsAt.gn hD hq); (try replace hB := IntsAt.gn hB hq); (try replace hL := IntsAt.gn hL hq); clear hq) | (go_at_call 54; refine (rformI_any _ _ _ _ _ _).mono ?_; rintro _ _ ⟨rfl, hq⟩; replace hg := GN.trans hg hq; (try replace hA := IntsAt.gn hA hq); (try replace hD := IntsAt.gn hD hq); (try replace hB := IntsAt.gn hB hq); (try replace hL := IntsAt.gn hL hq); clear hq) | (go_at_call 59; refine (rformR_any _ _ _ _ _ _ _).mono ?_; rintro _ _ ⟨rfl, hq⟩; replace hg := GN.trans hg hq; (try replace hA := IntsAt.gn hA hq); (try replace hD := IntsAt.gn hD hq); (try replace hB := IntsAt.gn hB hq); (try replace hL := IntsAt.gn hL hq); clear hq))
      go_ret
      exact ⟨congrArg (fun x : Nat => Ending.returned (Value.int .u32 (x : Int))) ((oneK_9 _ _ _ _ _ _ _ _ _ _ _ _).symm.trans (unhide Hfin)), hg⟩
    · go_wp2_with (first | (go_at_call 33; refine (rbits_any _ _ _ (by assumption) (by decide) (by decide) _).mono ?_; rintro _ _ ⟨rfl, hq⟩; replace hg := GN.trans hg hq; (try replace hA := IntsAt.gn hA hq); (try replace hD := IntsAt.gn hD hq); (try replace hB := IntsAt.gn hB hq); (try replace hL := IntsAt.gn hL hq); clear hq) | (go_at_call 54; refine (rformI_any _ _ _ _ _ _).mono ?_; rintro _ _ ⟨rfl, hq⟩; replace hg := GN.trans hg hq; (try replace hA := IntsAt.gn hA hq); (try replace hD := IntsAt.gn hD hq); (try replace hB := IntsAt.gn hB hq); (try replace hL := IntsAt.gn hL hq); clear hq) | (go_at_call 59; refine (rformR_any _ _ _ _ _ _ _).mono ?_; rintro _ _ ⟨rfl, hq⟩; replace hg := GN.trans hg hq; (try replace hA := IntsAt.gn hA hq); (try replace hD := IntsAt.gn hD hq); (try replace hB := IntsAt.gn hB hq); (try replace hL := IntsAt.gn hL hq); clear hq))
      go_ret
      exact ⟨congrArg (fun x : Nat => Ending.returned (Value.int .u32 (x : Int))) ((oneK_10 _ _ _ _ _ _ _ _ _ _ _ _).symm.trans (unhide Hfin)), hg⟩
    · have hcn : c = 0 ∨ c = 1 := by omega
      clear hcb
      rcases hcn with rfl | rfl
      · have hqn : q = 0 ∨ q = 1 ∨ q = 2 ∨ q = 3 := by omega
        clear hqb
        rcases hqn with rfl | rfl | rfl | rfl
        · go_wp2_with (first | (go_at_call 33; refine (rbits_any _ _ _ (by assumption) (by decide) (by decide) _).mono ?_; rintro _ _ ⟨rfl, hq⟩; replace hg := GN.trans hg hq; (try replace hA := IntsAt.gn hA hq); (try replace hD := IntsAt.gn hD hq); (try replace hB := IntsAt.gn hB hq); (try replace hL := IntsAt.gn hL hq); clear hq) | (go_at_call 54; refine (rformI_any _ _ _ _ _ _).mono ?_; rintro _ _ ⟨rfl, hq⟩; replace hg := GN.trans hg hq; (try replace hA := IntsAt.gn hA hq); (try replace hD := IntsAt.gn hD hq); (try replace hB := IntsAt.gn hB hq); (try replace hL := IntsAt.gn hL hq); clear hq) | (go_at_call 59; refine (rformR_any _ _ _ _ _ _ _).mono ?_; rintro _ _ ⟨rfl, hq⟩; replace hg := GN.trans hg hq; (try replace hA := IntsAt.gn hA hq); (try replace hD := IntsAt.gn hD hq); (try replace hB := IntsAt.gn hB hq); (try replace hL := IntsAt.gn hL hq); clear hq))
          go_ret
          exact ⟨congrArg (fun x : Nat => Ending.returned (Value.int .u32 (x : Int))) ((oneK_11 _ _ _ _ _ _ _ _ _ _).symm.trans (unhide Hfin)), hg⟩
        · go_wp2_with (first | (go_at_call 33; refine (rbits_any _ _ _ (by assumption) (by decide) (by decide) _).mono ?_; rintro _ _ ⟨rfl, hq⟩; replace hg := GN.trans hg hq; (try replace hA := IntsAt.gn hA hq); (try replace hD := IntsAt.gn hD hq); (try replace hB := IntsAt.gn hB hq); (try replace hL := IntsAt.gn hL hq); clear hq) | (go_at_call 54; refine (rformI_any _ _ _ _ _ _).mono ?_; rintro _ _ ⟨rfl, hq⟩; replace hg := GN.trans hg hq; (try replace hA := IntsAt.gn hA hq); (try replace hD := IntsAt.gn hD hq); (try replace hB := IntsAt.gn hB hq); (try replace hL := IntsAt.gn hL hq); clear hq) | (go_at_call 59; refine (rformR_any _ _ _ _ _ _ _).mono ?_; rintro _ _ ⟨rfl, hq⟩; replace hg := GN.trans hg hq; (try replace hA := IntsAt.gn hA hq); (try replace hD := IntsAt.gn hD hq); (try replace hB := IntsAt.gn hB hq); (try replace hL := IntsAt.gn hL hq); clear hq))
          go_ret
          exact ⟨congrArg (fun x : Nat => Ending.returned (Value.int .u32 (x : Int))) ((oneK_12 _ _ _ _ _ _ _ _ _ _).symm.trans (unhide Hfin)), hg⟩
        · go_wp2_with (first | (go_at_call 33; refine (rbits_any _ _ _ (by assumption) (by decide) (by decide) _).mono ?_; rintro _ _ ⟨rfl, hq⟩; replace hg := GN.trans hg hq; (try replace hA := IntsAt.gn hA hq); (try replace hD := IntsAt.gn hD hq); (try replace hB := IntsAt.gn hB hq); (try replace hL := IntsAt.gn hL hq); clear hq) | (go_at_call 54; refine (rformI_any _ _ _ _ _ _).mono ?_; rintro _ _ ⟨rfl, hq⟩; replace hg := GN.trans hg hq; (try replace hA := IntsAt.gn hA hq); (try replace hD := IntsAt.gn hD hq); (try replace hB := IntsAt.gn hB hq); (try replace hL := IntsAt.gn hL hq); clear hq) | (go_at_call 59; refine (rformR_any _ _ _ _ _ _ _).mono ?_; rintro _ _ ⟨rfl, hq⟩; replace hg := GN.trans hg hq; (try replace hA := IntsAt.gn hA hq); (try replace hD := IntsAt.gn hD hq); (try replace hB := IntsAt.gn hB hq); (try replace hL := IntsAt.gn hL hq); clear hq))
          go_ret
          exact ⟨congrArg (fun x : Nat => Ending.returned (Value.int .u32 (x : Int))) ((oneK_13 _ _ _ _ _ _ _ _ _ _).symm.trans (unhide Hfin)), hg⟩
        · go_wp2_with (first | (go_at_call 33; refine (rbits_any _ _ _ (by assumption) (by decide) (by decide) _).mono ?_; rintro _ _ ⟨rfl, hq⟩; replace hg := GN.trans hg hq; (try replace hA := IntsAt.gn hA hq); (try replace hD := IntsAt.gn hD hq); (try replace hB := IntsAt.gn hB hq); (try replace hL := IntsAt.gn hL hq); clear hq) | (go_at_call 54; refine (rformI_any _ _ _ _ _ _).mono ?_; rintro _ _ ⟨rfl, hq⟩; replace hg := GN.trans hg hq; (try replace hA := IntsAt.gn hA hq); (try replace hD := IntsAt.gn hD hq); (try replace hB := IntsAt.gn hB hq); (try replace hL := IntsAt.gn hL hq); clear hq) | (go_at_call 59; refine (rformR_any _ _ _ _ _ _ _).mono ?_; rintro _ _ ⟨rfl, hq⟩; replace hg := GN.trans hg hq; (try replace hA := IntsAt.gn hA hq); (try replace hD := IntsAt.gn hD hq); (try replace hB := IntsAt.gn hB hq); (try replace hL := IntsAt.gn hL hq); clear hq))
          go_ret
          exact ⟨congrArg (fun x : Nat => Ending.returned (Value.int .u32 (x : Int))) ((oneK_14 _ _ _ _ _ _ _ _ _ _).symm.trans (unhide Hfin)), hg⟩
      · have hqn : q = 0 ∨ q = 1 ∨ q = 2 ∨ q = 3 := by omega
        clear hqb
        rcases hqn with rfl | rfl | rfl | rfl
        · go_wp2_with (first | (go_at_call 33; refine (rbits_any _ _ _ (by assumption) (by decide) (by decide) _).mono ?_; rintro _ _ ⟨rfl, hq⟩; replace hg := GN.trans hg hq; (try replace hA := IntsAt.gn hA hq); (try replace hD := IntsAt.gn hD hq); (try replace hB := IntsAt.gn hB hq); (try replace hL := IntsAt.gn hL hq); clear hq) | (go_at_call 54; refine (rformI_any _ _ _ _ _ _).mono ?_; rintro _ _ ⟨rfl, hq⟩; replace hg := GN.trans hg hq; (try replace hA := IntsAt.gn hA hq); (try replace hD := IntsAt.gn hD hq); (try replace hB := IntsAt.gn hB hq); (try replace hL := IntsAt.gn hL hq); clear hq) | (go_at_call 59; refine (rformR_any _ _ _ _ _ _ _).mono ?_; rintro _ _ ⟨rfl, hq⟩; replace hg := GN.trans hg hq; (try replace hA := IntsAt.gn hA hq); (try replace hD := IntsAt.gn hD hq); (try replace hB := IntsAt.gn hB hq); (try replace hL := IntsAt.gn hL hq); clear hq))
          go_ret
          exact ⟨congrArg (fun x : Nat => Ending.returned (Value.int .u32 (x : Int))) ((oneK_15 _ _ _ _ _ _ _ _ _ _).symm.trans (unhide Hfin)), hg⟩
        · go_wp2_with (first | (go_at_call 33; refine (rbits_any _ _ _ (by assumption) (by decide) (by decide) _).mono ?_; rintro _ _ ⟨rfl, hq⟩; replace hg := GN.trans hg hq; (try replace hA := IntsAt.gn hA hq); (try replace hD := IntsAt.gn hD hq); (try replace hB := IntsAt.gn hB hq); (try replace hL := IntsAt.gn hL hq); clear hq) | (go_at_call 54; refine (rformI_any _ _ _ _ _ _).mono ?_; rintro _ _ ⟨rfl, hq⟩; replace hg := GN.trans hg hq; (try replace hA := IntsAt.gn hA hq); (try replace hD := IntsAt.gn hD hq); (try replace hB := IntsAt.gn hB hq); (try replace hL := IntsAt.gn hL hq); clear hq) | (go_at_call 59; refine (rformR_any _ _ _ _ _ _ _).mono ?_; rintro _ _ ⟨rfl, hq⟩; replace hg := GN.trans hg hq; (try replace hA := IntsAt.gn hA hq); (try replace hD := IntsAt.gn hD hq); (try replace hB := IntsAt.gn hB hq); (try replace hL := IntsAt.gn hL hq); clear hq))
          go_ret
          exact ⟨congrArg (fun x : Nat => Ending.returned (Value.int .u32 (x : Int))) ((oneK_16 _ _ _ _ _ _ _ _ _ _).symm.trans (unhide Hfin)), hg⟩
        · go_wp2_with (first | (go_at_call 33; refine (rbits_any _ _ _ (by assumption) (by decide) (by decide) _).mono ?_; rintro _ _ ⟨rfl, hq⟩; replace hg := GN.trans hg hq; (try replace hA := IntsAt.gn hA hq); (try replace hD := IntsAt.gn hD hq); (try replace hB := IntsAt.gn hB hq); (try replace hL := IntsAt.gn hL hq); clear hq) | (go_at_call 54; refine (rformI_any _ _ _ _ _ _).mono ?_; rintro _ _ ⟨rfl, hq⟩; replace hg := GN.trans hg hq; (try replace hA := IntsAt.gn hA hq); (try replace hD := IntsAt.gn hD hq); (try replace hB := IntsAt.gn hB hq); (try replace hL := IntsAt.gn hL hq); clear hq) | (go_at_call 59; refine (rformR_any _ _ _ _ _ _ _).mono ?_; rintro _ _ ⟨rfl, hq⟩; replace hg := GN.trans hg hq; (try replace hA := IntsAt.gn hA hq); (try replace hD := IntsAt.gn hD hq); (try replace hB := IntsAt.gn hB hq); (try replace hL := IntsAt.gn hL hq); clear hq))
          go_ret
          exact ⟨congrArg (fun x : Nat => Ending.returned (Value.int .u32 (x : Int))) ((oneK_17 _ _ _ _ _ _ _ _ _ _).symm.trans (unhide Hfin)), hg⟩
        · go_wp2_with (first | (go_at_call 33; refine (rbits_any _ _ _ (by assumption) (by decide) (by decide) _).mono ?_; rintro _ _ ⟨rfl, hq⟩; replace hg := GN.trans hg hq; (try replace hA := IntsAt.gn hA hq); (try replace hD := IntsAt.gn hD hq); (try replace hB := IntsAt.gn hB hq); (try replace hL := IntsAt.gn hL hq); clear hq) | (go_at_call 54; refine (rformI_any _ _ _ _ _ _).mono ?_; rintro _ _ ⟨rfl, hq⟩; replace hg := GN.trans hg hq; (try replace hA := IntsAt.gn hA hq); (try replace hD := IntsAt.gn hD hq); (try replace hB := IntsAt.gn hB hq); (try replace hL := IntsAt.gn hL hq); clear hq) | (go_at_call 59; refine (rformR_any _ _ _ _ _ _ _).mono ?_; rintro _ _ ⟨rfl, hq⟩; replace hg := GN.trans hg hq; (try replace hA := IntsAt.gn hA hq); (try replace hD := IntsAt.gn hD hq); (try replace hB := IntsAt.gn hB hq); (try replace hL := IntsAt.gn hL hq); clear hq))
          go_ret
          exact ⟨congrArg (fun x : Nat => Ending.returned (Value.int .u32 (x : Int))) ((oneK_18 _ _ _ _ _ _ _ _ _ _).symm.trans (unhide Hfin)), hg⟩
  · go_wp2_with fail
    refine (rows_any 12 2 (-1) 0 11 0 (by decide) (by decide) (by decide) (by decide) (by decide) (by decide) (by decide) (by decide) (by decide) _).mono ?_
    rintro _ _ ⟨vhD, rfl, hD, hq⟩
    replace hg := GN.trans hg hq
    (try replace hA := IntsAt.gn hA hq)
    (try replace hL := IntsAt.gn hL hq)
    clear hq
    go_wp2_with fail
    refine (imm_any _ (by assumption) _ _ (dnl 12 11 ++ dnl (-1) 0) [11, 4, 9, 8, 10, 6, 7, 3, 2, 1, 5] true (by decide) (by decide) (by decide) _ (GN.alloc hg _) (IntsAt.gn hD (GN.alloc (GN.refl _) _)) (new_ints [11, 4, 9, 8, 10, 6, 7, 3, 2, 1, 5] _)).mono ?_
    rintro _ _ ⟨rfl, hq⟩
    replace hq := GN.trans (GN.alloc (GN.refl _) _) hq
    replace hg := GN.trans hg hq
    (try replace hA := IntsAt.gn hA hq)
    (try replace hD := IntsAt.gn hD hq)
    (try replace hL := IntsAt.gn hL hq)
    clear hq
    go_wp2_with (first | (go_at_call 57; refine (rformJ_any _ _ _ _).mono ?_; rintro _ _ ⟨rfl, hq⟩; replace hg := GN.trans hg hq; (try replace hA := IntsAt.gn hA hq); (try replace hD := IntsAt.gn hD hq); (try replace hB := IntsAt.gn hB hq); (try replace hL := IntsAt.gn hL hq); clear hq))
    go_ret
    exact ⟨congrArg (fun x : Nat => Ending.returned (Value.int .u32 (x : Int))) ((oneK_19 _ _ _ _ _ _ _ _ _ _ _ _ _).symm.trans (unhide Hfin)), hg⟩
  · go_wp2_with (first | (go_at_call 58; refine (rformB_any _ _ _ _ _ _).mono ?_; rintro _ _ ⟨rfl, hq⟩; replace hg := GN.trans hg hq; (try replace hA := IntsAt.gn hA hq); (try replace hD := IntsAt.gn hD hq); (try replace hB := IntsAt.gn hB hq); (try replace hL := IntsAt.gn hL hq); clear hq))
    go_ret
    exact ⟨congrArg (fun x : Nat => Ending.returned (Value.int .u32 (x : Int))) ((oneK_20 _ _ _ _ _ _ _ _ _ _ _ _ _).symm.trans (unhide Hfin)), hg⟩
  · go_wp2_with (first | (go_at_call 58; refine (rformB_any _ _ _ _ _ _).mono ?_; rintro _ _ ⟨rfl, hq⟩; replace hg := GN.trans hg hq; (try replace hA := IntsAt.gn hA hq); (try replace hD := IntsAt.gn hD hq); (try replace hB := IntsAt.gn hB hq); (try replace hL := IntsAt.gn hL hq); clear hq))
    go_ret
    exact ⟨congrArg (fun x : Nat => Ending.returned (Value.int .u32 (x : Int))) ((oneK_21 _ _ _ _ _ _ _ _ _ _ _ _ _).symm.trans (unhide Hfin)), hg⟩
end Go.Proofs.YtblbgalpkodibaaDoor
