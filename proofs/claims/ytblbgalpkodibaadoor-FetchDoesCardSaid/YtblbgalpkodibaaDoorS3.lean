/- Layer 4: what a half stands for: operations. -/
import Derived.Test.YtblbgalpkodibaaDoorS2
namespace Go.Proofs.YtblbgalpkodibaaDoor
open Go.RowKit

theorem natBEq (a b : Nat) : ((a : Int) == (b : Int)) = (a == b) := by
  by_cases h : a = b
  · subst h; simp
  · rw [beq_eq_false_iff_ne.2 h, beq_eq_false_iff_ne.2 (by omega)]
theorem natBNe (a b : Nat) : ((a : Int) != (b : Int)) = (a != b) := by
  unfold bne
  rw [natBEq]
theorem add1024 (a : Nat) : ((a : Int) + 1024) % 4294967296 = (((a + 1024) % 4294967296 : Nat) : Int) := by omega
def workK (k c q x y i six s1 : Nat) : Nat := (bif k == 0 then nI six x 5 x 19 else (bif k == 1 then nI s1 x 5 x 19 else (bif k == 2 then nI i x 7 x 19 else (bif c == 1 then (bif q == 0 then nR 32 y x 0 x 59 else (bif q == 1 then nR 0 y x 0 x 59 else 0)) else (bif q == 0 then nR 32 y x 0 x 51 else (bif q == 1 then nR 0 y x 4 x 51 else (bif q == 2 then nR 0 y x 6 x 51 else nR 0 y x 7 x 51)))))))
def workN (h six : Nat) : Nat := workK (fld h 11 10) (fld h 12 12) (fld h 6 5) ((8 + fld h 9 7) % 4294967296) ((8 + fld h 4 2) % 4294967296) (putN six (row 3) true) six ((six + 1024) % 4294967296)
theorem workK_0 (c q x y i six s1 : Nat) : workK 0 c q x y i six s1 = nI six x 5 x 19 := by unfold workK; rw [condT (b := 0 == 0) rfl]
theorem workK_1 (c q x y i six s1 : Nat) : workK 1 c q x y i six s1 = nI s1 x 5 x 19 := by unfold workK; rw [condF (b := 1 == 0) rfl, condT (b := 1 == 1) rfl]
theorem workK_2 (c q x y i six s1 : Nat) : workK 2 c q x y i six s1 = nI i x 7 x 19 := by unfold workK; rw [condF (b := 2 == 0) rfl, condF (b := 2 == 1) rfl, condT (b := 2 == 2) rfl]
theorem workK_3 (c x y i six s1 : Nat) (z0 : (c == 1) = false) : workK 3 c 0 x y i six s1 = nR 32 y x 0 x 51 := by unfold workK; rw [condF (b := 3 == 0) rfl, condF (b := 3 == 1) rfl, condF (b := 3 == 2) rfl, condF z0, condT (b := 0 == 0) rfl]
theorem workK_4 (c x y i six s1 : Nat) (z0 : (c == 1) = false) : workK 3 c 1 x y i six s1 = nR 0 y x 4 x 51 := by unfold workK; rw [condF (b := 3 == 0) rfl, condF (b := 3 == 1) rfl, condF (b := 3 == 2) rfl, condF z0, condF (b := 1 == 0) rfl, condT (b := 1 == 1) rfl]
theorem workK_5 (c x y i six s1 : Nat) (z0 : (c == 1) = false) : workK 3 c 2 x y i six s1 = nR 0 y x 6 x 51 := by unfold workK; rw [condF (b := 3 == 0) rfl, condF (b := 3 == 1) rfl, condF (b := 3 == 2) rfl, condF z0, condF (b := 2 == 0) rfl, condF (b := 2 == 1) rfl, condT (b := 2 == 2) rfl]
theorem workK_6 (c x y i six s1 : Nat) (z0 : (c == 1) = false) : workK 3 c 3 x y i six s1 = nR 0 y x 7 x 51 := by unfold workK; rw [condF (b := 3 == 0) rfl, condF (b := 3 == 1) rfl, condF (b := 3 == 2) rfl, condF z0, condF (b := 3 == 0) rfl, condF (b := 3 == 1) rfl, condF (b := 3 == 2) rfl]
theorem workK_7 (c x y i six s1 : Nat) (z0 : (c == 1) = true) : workK 3 c 0 x y i six s1 = nR 32 y x 0 x 59 := by unfold workK; rw [condF (b := 3 == 0) rfl, condF (b := 3 == 1) rfl, condF (b := 3 == 2) rfl, condT z0, condT (b := 0 == 0) rfl]
theorem workK_8 (c x y i six s1 : Nat) (z0 : (c == 1) = true) : workK 3 c 1 x y i six s1 = nR 0 y x 0 x 59 := by unfold workK; rw [condF (b := 3 == 0) rfl, condF (b := 3 == 1) rfl, condF (b := 3 == 2) rfl, condT z0, condF (b := 1 == 0) rfl, condT (b := 1 == 1) rfl]
theorem workK_9 (c x y i six s1 : Nat) (z0 : (c == 1) = true) : workK 3 c 2 x y i six s1 = 0 := by unfold workK; rw [condF (b := 3 == 0) rfl, condF (b := 3 == 1) rfl, condF (b := 3 == 2) rfl, condT z0, condF (b := 2 == 0) rfl, condF (b := 2 == 1) rfl]
theorem workK_10 (c x y i six s1 : Nat) (z0 : (c == 1) = true) : workK 3 c 3 x y i six s1 = 0 := by unfold workK; rw [condF (b := 3 == 0) rfl, condF (b := 3 == 1) rfl, condF (b := 3 == 2) rfl, condT z0, condF (b := 3 == 0) rfl, condF (b := 3 == 1) rfl]
set_option maxRecDepth 100000 in
set_option maxHeartbeats 2000000 in
theorem work_any {w0 : World} (hT : Tab w0) (h six : Nat) (hh : h < 65536) (w : World) (hg : GN w0 w) : Calls Tryd.prog 66 #[.int .u16 h, .int .u32 six] w fun e w' => e = .returned (.int .u32 (workN h six : Nat)) ∧ GN w0 w' := by
  have hfin : workN h six = workK (fld h 11 10) (fld h 12 12) (fld h 6 5) ((8 + fld h 9 7) % 4294967296) ((8 + fld h 4 2) % 4294967296) (putN six (row 3) true) six ((six + 1024) % 4294967296) := rfl
  have hkb := fld_lt h 11 10
  rw [show 2 ^ (11 - 10 + 1) = 4 from rfl] at hkb
  have hqb := fld_lt h 6 5
  rw [show 2 ^ (6 - 5 + 1) = 4 from rfl] at hqb
  have ex := add8 (fld h 9 7)
  have ey := add8 (fld h 4 2)
  have es := add1024 six
  generalize (8 + fld h 9 7) % 4294967296 = x at *
  generalize (8 + fld h 4 2) % 4294967296 = y at *
  generalize (six + 1024) % 4294967296 = s1 at *
  generalize hk0 : fld h 11 10 = k at *
  generalize hc0 : fld h 12 12 = c at *
  generalize hq0 : fld h 6 5 = q at *
  obtain ⟨ans, hans⟩ : ∃ a, workN h six = a := ⟨_, rfl⟩
  rw [hans]
  rw [hans] at hfin
  clear hans
  have Hfin := hide hfin.symm
  clear hfin
  go_enter Tryd.func66, Tryd.ntmps66
  go_upto_region 4 with (first | (go_at_call 62; refine (field_any _ _ _ (by assumption) (by decide) (by decide) _).mono ?_; rintro _ _ ⟨rfl, hq⟩; replace hg := GN.trans hg hq; clear hq) | (go_at_call 63; refine (put_any hT _ _ _ (by decide) _ hg).mono ?_; rintro _ _ ⟨rfl, hq⟩; replace hg := GN.trans hg hq; clear hq))
  clear hk0
  have hkn : k = 0 ∨ k = 1 ∨ k = 2 ∨ k = 3 := by omega
  clear hkb
  rcases hkn with rfl | rfl | rfl | rfl
  · go_wp2_with (first | (go_at_call 62; refine (field_any _ _ _ (by assumption) (by decide) (by decide) _).mono ?_; rintro _ _ ⟨rfl, hq⟩; replace hg := GN.trans hg hq; clear hq) | (go_at_call 63; refine (put_any hT _ _ _ (by decide) _ hg).mono ?_; rintro _ _ ⟨rfl, hq⟩; replace hg := GN.trans hg hq; clear hq) | (go_at_call 64; refine (formI_any _ _ _ _ _ _).mono ?_; rintro _ _ ⟨rfl, hq⟩; replace hg := GN.trans hg hq; clear hq) | (go_at_call 69; refine (formR_any _ _ _ _ _ _ _).mono ?_; rintro _ _ ⟨rfl, hq⟩; replace hg := GN.trans hg hq; clear hq))
    go_ret
    exact ⟨congrArg (fun x : Nat => Ending.returned (Value.int .u32 (x : Int))) ((workK_0 _ _ _ _ _ _ _).symm.trans (unhide Hfin)), hg⟩
  · go_wp2_with (first | (go_at_call 62; refine (field_any _ _ _ (by assumption) (by decide) (by decide) _).mono ?_; rintro _ _ ⟨rfl, hq⟩; replace hg := GN.trans hg hq; clear hq) | (go_at_call 63; refine (put_any hT _ _ _ (by decide) _ hg).mono ?_; rintro _ _ ⟨rfl, hq⟩; replace hg := GN.trans hg hq; clear hq) | (go_at_call 64; refine (formI_any _ _ _ _ _ _).mono ?_; rintro _ _ ⟨rfl, hq⟩; replace hg := GN.trans hg hq; clear hq) | (go_at_call 69; refine (formR_any _ _ _ _ _ _ _).mono ?_; rintro _ _ ⟨rfl, hq⟩; replace hg := GN.trans hg hq; clear hq))
    go_ret
    exact ⟨congrArg (fun x : Nat => Ending.returned (Value.int .u32 (x : Int))) ((workK_1 _ _ _ _ _ _ _).symm.trans (unhide Hfin)), hg⟩
  · go_wp2_with (first | (go_at_call 62; refine (field_any _ _ _ (by assumption) (by decide) (by decide) _).mono ?_; rintro _ _ ⟨rfl, hq⟩; replace hg := GN.trans hg hq; clear hq) | (go_at_call 63; refine (put_any hT _ _ _ (by decide) _ hg).mono ?_; rintro _ _ ⟨rfl, hq⟩; replace hg := GN.trans hg hq; clear hq) | (go_at_call 64; refine (formI_any _ _ _ _ _ _).mono ?_; rintro _ _ ⟨rfl, hq⟩; replace hg := GN.trans hg hq; clear hq) | (go_at_call 69; refine (formR_any _ _ _ _ _ _ _).mono ?_; rintro _ _ ⟨rfl, hq⟩; replace hg := GN.trans hg hq; clear hq))
    go_ret
    exact ⟨congrArg (fun x : Nat => Ending.returned (Value.int .u32 (x : Int))) ((workK_2 _ _ _ _ _ _ _).symm.trans (unhide Hfin)), hg⟩
  · cases hz0 : (c == 1)
    · have Hz0 := hide hz0
      have zi0 : (((c : Nat) : Int) == 1) = false := by
        have := natBEq (c) 1
        rw [hz0] at this
        exact this
      clear hz0
      have hqn : q = 0 ∨ q = 1 ∨ q = 2 ∨ q = 3 := by omega
      clear hqb
      rcases hqn with rfl | rfl | rfl | rfl
      · have hix : ∀ w_, (Instr.index 112 (.agg #[.int .u32 32, .int .u32 0, .int .u32 0, .int .u32 4, .int .u32 0, .int .u32 6, .int .u32 0, .int .u32 7]) (.int .u32 0)).run Tryd.prog w_ = .ok (.agg #[.int .u32 32, .int .u32 0]) w_ := fun w_ => by kernel_rfl
        go_wp2_with (first | (go_at_call 62; refine (field_any _ _ _ (by assumption) (by decide) (by decide) _).mono ?_; rintro _ _ ⟨rfl, hq⟩; replace hg := GN.trans hg hq; clear hq) | (go_at_call 69; refine (formR_any _ _ _ _ _ _ _).mono ?_; rintro _ _ ⟨rfl, hq⟩; replace hg := GN.trans (GN.alloc hg _) hq; clear hq))
        go_ret
        exact ⟨congrArg (fun x : Nat => Ending.returned (Value.int .u32 (x : Int))) ((workK_3 _ _ _ _ _ _ (unhide Hz0)).symm.trans (unhide Hfin)), hg⟩
      · have hix : ∀ w_, (Instr.index 112 (.agg #[.int .u32 32, .int .u32 0, .int .u32 0, .int .u32 4, .int .u32 0, .int .u32 6, .int .u32 0, .int .u32 7]) (.int .u32 1)).run Tryd.prog w_ = .ok (.agg #[.int .u32 0, .int .u32 4]) w_ := fun w_ => by kernel_rfl
        go_wp2_with (first | (go_at_call 62; refine (field_any _ _ _ (by assumption) (by decide) (by decide) _).mono ?_; rintro _ _ ⟨rfl, hq⟩; replace hg := GN.trans hg hq; clear hq) | (go_at_call 69; refine (formR_any _ _ _ _ _ _ _).mono ?_; rintro _ _ ⟨rfl, hq⟩; replace hg := GN.trans (GN.alloc hg _) hq; clear hq))
        go_ret
        exact ⟨congrArg (fun x : Nat => Ending.returned (Value.int .u32 (x : Int))) ((workK_4 _ _ _ _ _ _ (unhide Hz0)).symm.trans (unhide Hfin)), hg⟩
      · have hix : ∀ w_, (Instr.index 112 (.agg #[.int .u32 32, .int .u32 0, .int .u32 0, .int .u32 4, .int .u32 0, .int .u32 6, .int .u32 0, .int .u32 7]) (.int .u32 2)).run Tryd.prog w_ = .ok (.agg #[.int .u32 0, .int .u32 6]) w_ := fun w_ => by kernel_rfl
        go_wp2_with (first | (go_at_call 62; refine (field_any _ _ _ (by assumption) (by decide) (by decide) _).mono ?_; rintro _ _ ⟨rfl, hq⟩; replace hg := GN.trans hg hq; clear hq) | (go_at_call 69; refine (formR_any _ _ _ _ _ _ _).mono ?_; rintro _ _ ⟨rfl, hq⟩; replace hg := GN.trans (GN.alloc hg _) hq; clear hq))
        go_ret
        exact ⟨congrArg (fun x : Nat => Ending.returned (Value.int .u32 (x : Int))) ((workK_5 _ _ _ _ _ _ (unhide Hz0)).symm.trans (unhide Hfin)), hg⟩
      · have hix : ∀ w_, (Instr.index 112 (.agg #[.int .u32 32, .int .u32 0, .int .u32 0, .int .u32 4, .int .u32 0, .int .u32 6, .int .u32 0, .int .u32 7]) (.int .u32 3)).run Tryd.prog w_ = .ok (.agg #[.int .u32 0, .int .u32 7]) w_ := fun w_ => by kernel_rfl
        go_wp2_with (first | (go_at_call 62; refine (field_any _ _ _ (by assumption) (by decide) (by decide) _).mono ?_; rintro _ _ ⟨rfl, hq⟩; replace hg := GN.trans hg hq; clear hq) | (go_at_call 69; refine (formR_any _ _ _ _ _ _ _).mono ?_; rintro _ _ ⟨rfl, hq⟩; replace hg := GN.trans (GN.alloc hg _) hq; clear hq))
        go_ret
        exact ⟨congrArg (fun x : Nat => Ending.returned (Value.int .u32 (x : Int))) ((workK_6 _ _ _ _ _ _ (unhide Hz0)).symm.trans (unhide Hfin)), hg⟩
    · have Hz0 := hide hz0
      have zi0 : (((c : Nat) : Int) == 1) = true := by
        have := natBEq (c) 1
        rw [hz0] at this
        exact this
      clear hz0
      have hqn : q = 0 ∨ q = 1 ∨ q = 2 ∨ q = 3 := by omega
      clear hqb
      rcases hqn with rfl | rfl | rfl | rfl
      · go_wp2_with (first | (go_at_call 62; refine (field_any _ _ _ (by assumption) (by decide) (by decide) _).mono ?_; rintro _ _ ⟨rfl, hq⟩; replace hg := GN.trans hg hq; clear hq) | (go_at_call 63; refine (put_any hT _ _ _ (by decide) _ hg).mono ?_; rintro _ _ ⟨rfl, hq⟩; replace hg := GN.trans hg hq; clear hq) | (go_at_call 64; refine (formI_any _ _ _ _ _ _).mono ?_; rintro _ _ ⟨rfl, hq⟩; replace hg := GN.trans hg hq; clear hq) | (go_at_call 69; refine (formR_any _ _ _ _ _ _ _).mono ?_; rintro _ _ ⟨rfl, hq⟩; replace hg := GN.trans hg hq; clear hq))
        go_ret
        exact ⟨congrArg (fun x : Nat => Ending.returned (Value.int .u32 (x : Int))) ((workK_7 _ _ _ _ _ _ (unhide Hz0)).symm.trans (unhide Hfin)), hg⟩
      · go_wp2_with (first | (go_at_call 62; refine (field_any _ _ _ (by assumption) (by decide) (by decide) _).mono ?_; rintro _ _ ⟨rfl, hq⟩; replace hg := GN.trans hg hq; clear hq) | (go_at_call 63; refine (put_any hT _ _ _ (by decide) _ hg).mono ?_; rintro _ _ ⟨rfl, hq⟩; replace hg := GN.trans hg hq; clear hq) | (go_at_call 64; refine (formI_any _ _ _ _ _ _).mono ?_; rintro _ _ ⟨rfl, hq⟩; replace hg := GN.trans hg hq; clear hq) | (go_at_call 69; refine (formR_any _ _ _ _ _ _ _).mono ?_; rintro _ _ ⟨rfl, hq⟩; replace hg := GN.trans hg hq; clear hq))
        go_ret
        exact ⟨congrArg (fun x : Nat => Ending.returned (Value.int .u32 (x : Int))) ((workK_8 _ _ _ _ _ _ (unhide Hz0)).symm.trans (unhide Hfin)), hg⟩
      · go_wp2_with (first | (go_at_call 62; refine (field_any _ _ _ (by assumption) (by decide) (by decide) _).mono ?_; rintro _ _ ⟨rfl, hq⟩; replace hg := GN.trans hg hq; clear hq) | (go_at_call 63; refine (put_any hT _ _ _ (by decide) _ hg).mono ?_; rintro _ _ ⟨rfl, hq⟩; replace hg := GN.trans hg hq; clear hq) | (go_at_call 64; refine (formI_any _ _ _ _ _ _).mono ?_; rintro _ _ ⟨rfl, hq⟩; replace hg := GN.trans hg hq; clear hq) | (go_at_call 69; refine (formR_any _ _ _ _ _ _ _).mono ?_; rintro _ _ ⟨rfl, hq⟩; replace hg := GN.trans hg hq; clear hq))
        go_ret
        exact ⟨congrArg (fun x : Nat => Ending.returned (Value.int .u32 (x : Int))) ((workK_9 _ _ _ _ _ _ (unhide Hz0)).symm.trans (unhide Hfin)), hg⟩
      · go_wp2_with (first | (go_at_call 62; refine (field_any _ _ _ (by assumption) (by decide) (by decide) _).mono ?_; rintro _ _ ⟨rfl, hq⟩; replace hg := GN.trans hg hq; clear hq) | (go_at_call 63; refine (put_any hT _ _ _ (by decide) _ hg).mono ?_; rintro _ _ ⟨rfl, hq⟩; replace hg := GN.trans hg hq; clear hq) | (go_at_call 64; refine (formI_any _ _ _ _ _ _).mono ?_; rintro _ _ ⟨rfl, hq⟩; replace hg := GN.trans hg hq; clear hq) | (go_at_call 69; refine (formR_any _ _ _ _ _ _ _).mono ?_; rintro _ _ ⟨rfl, hq⟩; replace hg := GN.trans hg hq; clear hq))
        go_ret
        exact ⟨congrArg (fun x : Nat => Ending.returned (Value.int .u32 (x : Int))) ((workK_10 _ _ _ _ _ _ (unhide Hz0)).symm.trans (unhide Hfin)), hg⟩
end Go.Proofs.YtblbgalpkodibaaDoor
