/- Layer 4: what a half stands for. -/
import Derived.Test.YtblbgalpkodibaaDoorS1
namespace Go.Proofs.YtblbgalpkodibaaDoor
open Go.RowKit

theorem fld_lt (h hi lo : Nat) : fld h hi lo < 2 ^ (hi - lo + 1) := by
  unfold fld and32
  have hp : 1 ≤ 2 ^ (hi - lo + 1) := Nat.one_le_two_pow
  have h1 : h / 2 ^ lo &&& (2 ^ (hi - lo + 1) - 1) % 4294967296 ≤ (2 ^ (hi - lo + 1) - 1) % 4294967296 := Nat.and_le_right
  have h2 := Nat.mod_le (2 ^ (hi - lo + 1) - 1) 4294967296
  have h3 := Nat.mod_le (h / 2 ^ lo &&& (2 ^ (hi - lo + 1) - 1) % 4294967296) 4294967296
  omega
theorem add8 (a : Nat) : ((8 : Int) + (a : Int)) % 4294967296 = (((8 + a) % 4294967296 : Nat) : Int) := by omega
theorem or32i (a b : Nat) : bits .or .u32 (a : Int) (b : Int) = ((or32 a b : Nat) : Int) := (or32_cast a b).symm
theorem shl32 (a c : Nat) : ((a : Int) * (c : Int)) % 4294967296 = ((a * c % 4294967296 : Nat) : Int) := by
  rw [Int.natCast_emod, Int.natCast_mul]; rfl

theorem condT {α : Type} {b : Bool} {x y : α} (h : b = true) : (bif b then x else y) = x := by subst h; rfl
theorem condF {α : Type} {b : Bool} {x y : α} (h : b = false) : (bif b then x else y) = y := by subst h; rfl
def firstK (h k x y F : Nat) : Nat :=
  bif k == 0 then (bif putN (fld h 12 5) (row 0) false != 0 then nI (putN (fld h 12 5) (row 0) false) 2 0 y 19 else 0)
  else bif k == 1 then nI (putN F (row 1) false) x 3 y 7
  else bif k == 2 then nI (putN F (row 2) false) x 2 y 3
  else bif k == 3 then nI (putN F (row 1) false) x 3 y 3
  else bif k == 5 then nS (putN F (row 1) false) y x 3 39
  else bif k == 6 then nS (putN F (row 2) false) y x 2 35
  else bif k == 7 then nS (putN F (row 1) false) y x 3 35
  else 0
def firstN (h : Nat) : Nat := firstK h (fld h 15 13) ((8 + fld h 9 7) % 4294967296) ((8 + fld h 4 2) % 4294967296) (or32 (fld h 12 10 * 4 % 4294967296) (fld h 6 5))
theorem firstK_0 (h x y F : Nat) : firstK h 0 x y F = (bif putN (fld h 12 5) (row 0) false != 0 then nI (putN (fld h 12 5) (row 0) false) 2 0 y 19 else 0) := by unfold firstK; rw [condT (b := 0 == 0) rfl]
theorem firstK_1 (h x y F : Nat) : firstK h 1 x y F = nI (putN F (row 1) false) x 3 y 7 := by unfold firstK; rw [condF (b := 1 == 0) rfl, condT (b := 1 == 1) rfl]
theorem firstK_2 (h x y F : Nat) : firstK h 2 x y F = nI (putN F (row 2) false) x 2 y 3 := by unfold firstK; rw [condF (b := 2 == 0) rfl, condF (b := 2 == 1) rfl, condT (b := 2 == 2) rfl]
theorem firstK_3 (h x y F : Nat) : firstK h 3 x y F = nI (putN F (row 1) false) x 3 y 3 := by unfold firstK; rw [condF (b := 3 == 0) rfl, condF (b := 3 == 1) rfl, condF (b := 3 == 2) rfl, condT (b := 3 == 3) rfl]
theorem firstK_4 (h x y F : Nat) : firstK h 4 x y F = 0 := by unfold firstK; rw [condF (b := 4 == 0) rfl, condF (b := 4 == 1) rfl, condF (b := 4 == 2) rfl, condF (b := 4 == 3) rfl, condF (b := 4 == 5) rfl, condF (b := 4 == 6) rfl, condF (b := 4 == 7) rfl]
theorem firstK_5 (h x y F : Nat) : firstK h 5 x y F = nS (putN F (row 1) false) y x 3 39 := by unfold firstK; rw [condF (b := 5 == 0) rfl, condF (b := 5 == 1) rfl, condF (b := 5 == 2) rfl, condF (b := 5 == 3) rfl, condT (b := 5 == 5) rfl]
theorem firstK_6 (h x y F : Nat) : firstK h 6 x y F = nS (putN F (row 2) false) y x 2 35 := by unfold firstK; rw [condF (b := 6 == 0) rfl, condF (b := 6 == 1) rfl, condF (b := 6 == 2) rfl, condF (b := 6 == 3) rfl, condF (b := 6 == 5) rfl, condT (b := 6 == 6) rfl]
theorem firstK_7 (h x y F : Nat) : firstK h 7 x y F = nS (putN F (row 1) false) y x 3 35 := by unfold firstK; rw [condF (b := 7 == 0) rfl, condF (b := 7 == 1) rfl, condF (b := 7 == 2) rfl, condF (b := 7 == 3) rfl, condF (b := 7 == 5) rfl, condF (b := 7 == 6) rfl, condT (b := 7 == 7) rfl]
set_option maxRecDepth 100000 in
set_option maxHeartbeats 1000000 in
theorem first_any {w0 : World} (hT : Tab w0) (h : Nat) (hh : h < 65536) (w : World) (hg : GN w0 w) : Calls Tryd.prog 46 #[.int .u16 h] w fun e w' => e = .returned (.int .u32 (firstN h : Nat)) ∧ GN w0 w' := by
  have hfin : firstN h = firstK h (fld h 15 13) ((8 + fld h 9 7) % 4294967296) ((8 + fld h 4 2) % 4294967296) (or32 (fld h 12 10 * 4 % 4294967296) (fld h 6 5)) := rfl
  have hk := fld_lt h 15 13
  rw [show 2 ^ (15 - 13 + 1) = 8 from rfl] at hk
  have ex := add8 (fld h 9 7)
  have ey := add8 (fld h 4 2)
  have ef := or32i (fld h 12 10 * 4 % 4294967296) (fld h 6 5)
  rw [← shl32 (fld h 12 10) 4, Int.cast_ofNat_Int] at ef
  generalize (8 + fld h 9 7) % 4294967296 = x at *
  generalize (8 + fld h 4 2) % 4294967296 = y at *
  generalize or32 (fld h 12 10 * 4 % 4294967296) (fld h 6 5) = F at *
  obtain ⟨ans, hans⟩ : ∃ a, firstN h = a := ⟨_, rfl⟩
  rw [hans]
  rw [hans] at hfin
  clear hans
  replace hfin := hfin.symm
  obtain ⟨k, hkk⟩ : ∃ k, fld h 15 13 = k := ⟨_, rfl⟩
  rw [hkk] at hfin hk
  go_enter Tryd.func46, Tryd.ntmps46
  go_upto_region 5 with (first | (go_at_call 62; refine (field_any _ _ _ (by assumption) (by decide) (by decide) _).mono ?_; rintro _ _ ⟨rfl, hq⟩; replace hg := GN.trans hg hq; clear hq) | (go_at_call 63; refine (put_any hT _ _ _ (by decide) _ hg).mono ?_; rintro _ _ ⟨rfl, hq⟩; replace hg := GN.trans hg hq; clear hq))
  clear ex ey ef
  have hk8 : k = 0 ∨ k = 1 ∨ k = 2 ∨ k = 3 ∨ k = 4 ∨ k = 5 ∨ k = 6 ∨ k = 7 := by omega
  clear hk hkk
  rcases hk8 with rfl | rfl | rfl | rfl | rfl | rfl | rfl | rfl
  · have Hfin := hide hfin
    clear hfin
    by_cases q : putN (fld h 12 5) (row 0) false = 0
    · have z : (putN (fld h 12 5) (row 0) false != 0) = false := by rw [q]; rfl
      have Hz := hide z
      clear z
      have zi : ((putN (fld h 12 5) (row 0) false : Nat) : Int) = 0 := by omega
      go_wp2_with (first | (go_at_call 62; refine (field_any _ _ _ (by assumption) (by decide) (by decide) _).mono ?_; rintro _ _ ⟨rfl, hq⟩; replace hg := GN.trans hg hq; clear hq) | (go_at_call 63; refine (put_any hT _ _ _ (by decide) _ hg).mono ?_; rintro _ _ ⟨rfl, hq⟩; replace hg := GN.trans hg hq; clear hq) | (go_at_call 64; refine (formI_any _ _ _ _ _ _).mono ?_; rintro _ _ ⟨rfl, hq⟩; replace hg := GN.trans hg hq; clear hq))
      go_ret
      exact ⟨congrArg (fun x : Nat => Ending.returned (Value.int .u32 (x : Int))) (((firstK_0 h x y F).trans (condF (unhide Hz))).symm.trans (unhide Hfin)), hg⟩
    · have z : (putN (fld h 12 5) (row 0) false != 0) = true := bne_iff_ne.2 q
      have Hz := hide z
      clear z
      have zi : (((putN (fld h 12 5) (row 0) false : Nat) : Int) != 0) = true := bne_iff_ne.2 (by omega)
      go_wp2_with (first | (go_at_call 62; refine (field_any _ _ _ (by assumption) (by decide) (by decide) _).mono ?_; rintro _ _ ⟨rfl, hq⟩; replace hg := GN.trans hg hq; clear hq) | (go_at_call 63; refine (put_any hT _ _ _ (by decide) _ hg).mono ?_; rintro _ _ ⟨rfl, hq⟩; replace hg := GN.trans hg hq; clear hq) | (go_at_call 64; refine (formI_any _ _ _ _ _ _).mono ?_; rintro _ _ ⟨rfl, hq⟩; replace hg := GN.trans hg hq; clear hq))
      go_ret
      exact ⟨congrArg (fun x : Nat => Ending.returned (Value.int .u32 (x : Int))) (((firstK_0 h x y F).trans (condT (unhide Hz))).symm.trans (unhide Hfin)), hg⟩
  · have Hfin := hide hfin
    clear hfin
    go_wp2_with (first | (go_at_call 64; refine (formI_any _ _ _ _ _ _).mono ?_; rintro _ _ ⟨rfl, hq⟩; replace hg := GN.trans hg hq; clear hq) | (go_at_call 65; refine (formS_any _ _ _ _ _ _).mono ?_; rintro _ _ ⟨rfl, hq⟩; replace hg := GN.trans hg hq; clear hq))
    go_ret
    exact ⟨congrArg (fun x : Nat => Ending.returned (Value.int .u32 (x : Int))) ((firstK_1 h x y F).symm.trans (unhide Hfin)), hg⟩
  · have Hfin := hide hfin
    clear hfin
    go_wp2_with (first | (go_at_call 64; refine (formI_any _ _ _ _ _ _).mono ?_; rintro _ _ ⟨rfl, hq⟩; replace hg := GN.trans hg hq; clear hq) | (go_at_call 65; refine (formS_any _ _ _ _ _ _).mono ?_; rintro _ _ ⟨rfl, hq⟩; replace hg := GN.trans hg hq; clear hq))
    go_ret
    exact ⟨congrArg (fun x : Nat => Ending.returned (Value.int .u32 (x : Int))) ((firstK_2 h x y F).symm.trans (unhide Hfin)), hg⟩
  · have Hfin := hide hfin
    clear hfin
    go_wp2_with (first | (go_at_call 64; refine (formI_any _ _ _ _ _ _).mono ?_; rintro _ _ ⟨rfl, hq⟩; replace hg := GN.trans hg hq; clear hq) | (go_at_call 65; refine (formS_any _ _ _ _ _ _).mono ?_; rintro _ _ ⟨rfl, hq⟩; replace hg := GN.trans hg hq; clear hq))
    go_ret
    exact ⟨congrArg (fun x : Nat => Ending.returned (Value.int .u32 (x : Int))) ((firstK_3 h x y F).symm.trans (unhide Hfin)), hg⟩
  · have Hfin := hide hfin
    clear hfin
    go_wp2_with (first | (go_at_call 64; refine (formI_any _ _ _ _ _ _).mono ?_; rintro _ _ ⟨rfl, hq⟩; replace hg := GN.trans hg hq; clear hq) | (go_at_call 65; refine (formS_any _ _ _ _ _ _).mono ?_; rintro _ _ ⟨rfl, hq⟩; replace hg := GN.trans hg hq; clear hq))
    go_ret
    exact ⟨congrArg (fun x : Nat => Ending.returned (Value.int .u32 (x : Int))) ((firstK_4 h x y F).symm.trans (unhide Hfin)), hg⟩
  · have Hfin := hide hfin
    clear hfin
    go_wp2_with (first | (go_at_call 64; refine (formI_any _ _ _ _ _ _).mono ?_; rintro _ _ ⟨rfl, hq⟩; replace hg := GN.trans hg hq; clear hq) | (go_at_call 65; refine (formS_any _ _ _ _ _ _).mono ?_; rintro _ _ ⟨rfl, hq⟩; replace hg := GN.trans hg hq; clear hq))
    go_ret
    exact ⟨congrArg (fun x : Nat => Ending.returned (Value.int .u32 (x : Int))) ((firstK_5 h x y F).symm.trans (unhide Hfin)), hg⟩
  · have Hfin := hide hfin
    clear hfin
    go_wp2_with (first | (go_at_call 64; refine (formI_any _ _ _ _ _ _).mono ?_; rintro _ _ ⟨rfl, hq⟩; replace hg := GN.trans hg hq; clear hq) | (go_at_call 65; refine (formS_any _ _ _ _ _ _).mono ?_; rintro _ _ ⟨rfl, hq⟩; replace hg := GN.trans hg hq; clear hq))
    go_ret
    exact ⟨congrArg (fun x : Nat => Ending.returned (Value.int .u32 (x : Int))) ((firstK_6 h x y F).symm.trans (unhide Hfin)), hg⟩
  · have Hfin := hide hfin
    clear hfin
    go_wp2_with (first | (go_at_call 64; refine (formI_any _ _ _ _ _ _).mono ?_; rintro _ _ ⟨rfl, hq⟩; replace hg := GN.trans hg hq; clear hq) | (go_at_call 65; refine (formS_any _ _ _ _ _ _).mono ?_; rintro _ _ ⟨rfl, hq⟩; replace hg := GN.trans hg hq; clear hq))
    go_ret
    exact ⟨congrArg (fun x : Nat => Ending.returned (Value.int .u32 (x : Int))) ((firstK_7 h x y F).symm.trans (unhide Hfin)), hg⟩
end Go.Proofs.YtblbgalpkodibaaDoor
