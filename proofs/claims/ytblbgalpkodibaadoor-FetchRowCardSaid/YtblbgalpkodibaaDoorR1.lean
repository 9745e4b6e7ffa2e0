/- Layer 4: the document's bits and forms. -/
import Derived.Test.YtblbgalpkodibaaDoorS5
namespace Go.Proofs.YtblbgalpkodibaaDoor
open Go.RowKit

/-- Some bits of a number, the highest first. -/
def bt (n hi : Nat) : Nat → Nat
  | 0 => 0
  | j + 1 => (2 * bt n hi j % 4294967296 + and32 (n / 2 ^ (hi - j)) 1) % 4294967296
def prt (n hi lo : Nat) : Nat := bt n hi (hi + 1 - lo)
theorem bit_same (h n : Nat) (hh : h < 65536) (hn : n < 16) (w : World) : Calls Tryd.prog 49 #[.int .u16 h, .int .i64 n] w fun e w' => e = .returned (.int .u32 (and32 (h / 2 ^ n) 1 : Nat)) ∧ w' = w := by
  have k1 : (0 : Int) ≤ (n : Int) := by omega
  have k2 : (n : Int).toNat = n := by omega
  have eb := and32_cast (h / 2 ^ n) 1
  rw [Int.natCast_ediv, Int.natCast_pow] at eb
  replace eb : bits .and .u32 ((h : Int) / 2 ^ n) 1 = _ := eb.symm
  have hl : (h : Int) / 2 ^ n < 65536 := by
    have : (0 : Int) < 2 ^ n := Int.pow_pos (by decide)
    have := Int.ediv_le_self (2 ^ n) (show (0 : Int) ≤ h by omega)
    omega
  have h0 : 0 ≤ (h : Int) / 2 ^ n := Int.ediv_nonneg (by omega) (Int.le_of_lt (Int.pow_pos (by decide)))
  go_enter Tryd.func49, Tryd.ntmps49
  go_wp2
  go_ret
  exact ⟨rfl, rfl⟩
theorem bit_any (h n : Nat) (hh : h < 65536) (hn : n < 16) (w : World) : Calls Tryd.prog 49 #[.int .u16 h, .int .i64 n] w fun e w' => e = .returned (.int .u32 (and32 (h / 2 ^ n) 1 : Nat)) ∧ GN w w' :=
  (bit_same h n hh hn w).mono fun _ _ ⟨h1, h2⟩ => ⟨h1, by rw [h2]; exact GN.refl w⟩
set_option maxRecDepth 100000 in
set_option maxHeartbeats 1000000 in
theorem part_any (n hi lo : Nat) (hl : lo ≤ hi) (h31 : hi < 32) (w : World) : Calls Tryd.prog 70 #[.int .u32 n, .int .i64 hi, .int .i64 lo] w fun e w' => e = .returned (.int .u32 (prt n hi lo : Nat)) ∧ GN w w' := by
  obtain ⟨w0, hw0⟩ : ∃ w0, w = w0 := ⟨_, rfl⟩
  have hg : GN w0 w := by rw [hw0]; exact GN.refl _
  obtain ⟨lim, hlim⟩ : ∃ l, hi + 1 - lo = l := ⟨_, rfl⟩
  have hp : prt n hi lo = bt n hi lim := by unfold prt; rw [hlim]
  have Hp := hide hp
  rw [hw0]
  have hw0' := hide hw0
  clear hp
  rw [← hw0]
  go_enter Tryd.func70, Tryd.ntmps70
  go_wp2
  go_loopw [7, 8] (fun o7 i8 wr => ∃ j : Nat, i8 = .int .i64 ((hi : Int) - j) ∧ j ≤ lim ∧ o7 = .int .u32 ((bt n hi j : Nat) : Int) ∧ GN w0 wr) (fun _ i8 _ => (intOf i8 + 1 - lo).toNat)
  case atStart => exact ⟨0, by simp, Nat.zero_le _, rfl, hg⟩
  case round =>
    clear hg
    obtain ⟨j, rfl, hj, rfl, hg⟩ := hrel
    by_cases hjl : j < lim
    · have k0 : (lo : Int) ≤ (hi : Int) - j := by omega
      have k1 : (0 : Int) ≤ (hi : Int) - j := by omega
      obtain ⟨m, hm⟩ : ∃ m, hi - j = m := ⟨_, rfl⟩
      have k2 : ((hi : Int) - j) = (m : Int) := by omega
      have hb : bt n hi (j + 1) = (2 * bt n hi j % 4294967296 + and32 (n / 2 ^ m) 1) % 4294967296 := by rw [← hm]; rfl
      have Hb := hide hb
      have k3 : (m : Int).toNat = m := by omega
      have hm32 : m < 32 := by omega
      
      have eb := and32_cast (n / 2 ^ m) 1
      rw [Int.natCast_ediv, Int.natCast_pow] at eb
      replace eb : bits .and .u32 ((n : Int) / 2 ^ m) 1 = _ := eb.symm
      clear hb
      rw [k2]
      generalize bt n hi j = B at *
      generalize and32 (n / 2 ^ m) 1 = X at *
      go_wp2
      refine ⟨⟨j + 1, by go_num, by omega, ?_, hg⟩, by simp [intOf]; omega⟩
      rw [unhide Hb]
      refine congrArg (Value.int .u32) ?_
      omega
    · obtain rfl : j = lim := by omega
      have k0 : ¬ ((lo : Int) ≤ (hi : Int) - (j : Nat)) := by omega
      go_wp2
      go_ret
      exact ⟨by rw [unhide Hp]; rfl, hg⟩
set_option maxRecDepth 100000 in
set_option maxHeartbeats 1000000 in
theorem rbits_any (n hi lo : Nat) (hh : n < 65536) (hl : lo ≤ hi) (h31 : hi < 32 ∧ hi < 16) (w : World) : Calls Tryd.prog 33 #[.int .u16 n, .int .i64 hi, .int .i64 lo] w fun e w' => e = .returned (.int .u32 (prt n hi lo : Nat)) ∧ GN w w' := by
  obtain ⟨w0, hw0⟩ : ∃ w0, w = w0 := ⟨_, rfl⟩
  have hg : GN w0 w := by rw [hw0]; exact GN.refl _
  obtain ⟨lim, hlim⟩ : ∃ l, hi + 1 - lo = l := ⟨_, rfl⟩
  have hp : prt n hi lo = bt n hi lim := by unfold prt; rw [hlim]
  have Hp := hide hp
  rw [hw0]
  have hw0' := hide hw0
  clear hp
  rw [← hw0]
  go_enter Tryd.func33, Tryd.ntmps33
  go_wp2
  go_loopw [7, 8] (fun o7 i8 wr => ∃ j : Nat, i8 = .int .i64 ((hi : Int) - j) ∧ j ≤ lim ∧ o7 = .int .u32 ((bt n hi j : Nat) : Int) ∧ GN w0 wr) (fun _ i8 _ => (intOf i8 + 1 - lo).toNat)
  case atStart => exact ⟨0, by simp, Nat.zero_le _, rfl, hg⟩
  case round =>
    clear hg
    obtain ⟨j, rfl, hj, rfl, hg⟩ := hrel
    by_cases hjl : j < lim
    · have k0 : (lo : Int) ≤ (hi : Int) - j := by omega
      have k1 : (0 : Int) ≤ (hi : Int) - j := by omega
      obtain ⟨m, hm⟩ : ∃ m, hi - j = m := ⟨_, rfl⟩
      have k2 : ((hi : Int) - j) = (m : Int) := by omega
      have hb : bt n hi (j + 1) = (2 * bt n hi j % 4294967296 + and32 (n / 2 ^ m) 1) % 4294967296 := by rw [← hm]; rfl
      have Hb := hide hb
      have k3 : (m : Int).toNat = m := by omega
      have hm32 : m < 32 := by omega
      have hm16 : m < 16 := by omega
      have eb := and32_cast (n / 2 ^ m) 1
      rw [Int.natCast_ediv, Int.natCast_pow] at eb
      replace eb : bits .and .u32 ((n : Int) / 2 ^ m) 1 = _ := eb.symm
      clear hb
      rw [k2]
      generalize bt n hi j = B at *
      clear eb
      go_wp2_with (go_at_call 49; refine (bit_any _ _ (by assumption) (by omega) _).mono ?_; rintro _ _ ⟨rfl, hq⟩; replace hg := GN.trans hg hq; clear hq)
      refine ⟨⟨j + 1, by go_num, by omega, ?_, hg⟩, by simp [intOf]; omega⟩
      rw [unhide Hb]
      refine congrArg (Value.int .u32) ?_
      omega
    · obtain rfl : j = lim := by omega
      have k0 : ¬ ((lo : Int) ≤ (hi : Int) - (j : Nat)) := by omega
      go_wp2
      go_ret
      exact ⟨by rw [unhide Hp]; rfl, hg⟩
def rR (s b a f d o : Nat) : Nat := (((((s * 32 + b) * 32 + a) * 8 + f) * 32 + d) * 128 + o) % 4294967296
def rI (i a f d o : Nat) : Nat := ((((prt i 11 0 * 32 + a) * 8 + f) * 32 + d) * 128 + o) % 4294967296
def rU (i d o : Nat) : Nat := ((prt i 31 12 * 32 + d) * 128 + o) % 4294967296
def rJ (i d o : Nat) : Nat := (((((prt i 20 20 * 1024 + prt i 10 1) * 2 + prt i 11 11) * 256 + prt i 19 12) * 32 + d) * 128 + o) % 4294967296
def rS (i b a f o : Nat) : Nat := rR (prt i 11 5) b a f (prt i 4 0) o
def rB (i b a f o : Nat) : Nat := rR ((prt i 12 12 * 64 + prt i 10 5) % 4294967296) b a f ((prt i 4 1 * 2 + prt i 11 11) % 4294967296) o
set_option maxHeartbeats 1000000 in
theorem rformR_any (s b a f d o : Nat) (w : World) : Calls Tryd.prog 59 #[.int .u32 s, .int .u32 b, .int .u32 a, .int .u32 f, .int .u32 d, .int .u32 o] w fun r w' => r = .returned (.int .u32 (rR s b a f d o : Nat)) ∧ GN w w' := by
  have hg := GN.refl w
  obtain ⟨z, hz⟩ : ∃ z : Nat, z = rR s b a f d o := ⟨_, rfl⟩
  rw [← hz]
  have Hz := hide hz
  clear hz
  go_enter Tryd.func59, Tryd.ntmps59
  go_wp2
  go_ret
  refine ⟨congrArg (fun x => Ending.returned (Value.int .u32 x)) (by have h := unhide Hz; unfold rR at h; omega), hg⟩
set_option maxHeartbeats 1000000 in
theorem rformI_any (i a f d o : Nat) (w : World) : Calls Tryd.prog 54 #[.int .u32 i, .int .u32 a, .int .u32 f, .int .u32 d, .int .u32 o] w fun r w' => r = .returned (.int .u32 (rI i a f d o : Nat)) ∧ GN w w' := by
  have hg := GN.refl w
  obtain ⟨z, hz⟩ : ∃ z : Nat, z = rI i a f d o := ⟨_, rfl⟩
  rw [← hz]
  have Hz := hide hz
  clear hz
  go_enter Tryd.func54, Tryd.ntmps54
  go_wp2_with (first | (go_at_call 70; refine (part_any _ _ _ (by decide) (by decide) _).mono ?_; rintro _ _ ⟨rfl, hq⟩; replace hg := GN.trans hg hq; clear hq))
  go_ret
  refine ⟨congrArg (fun x => Ending.returned (Value.int .u32 x)) (by have h := unhide Hz; unfold rI at h; omega), hg⟩
set_option maxHeartbeats 1000000 in
theorem rformU_any (i d o : Nat) (w : World) : Calls Tryd.prog 56 #[.int .u32 i, .int .u32 d, .int .u32 o] w fun r w' => r = .returned (.int .u32 (rU i d o : Nat)) ∧ GN w w' := by
  have hg := GN.refl w
  obtain ⟨z, hz⟩ : ∃ z : Nat, z = rU i d o := ⟨_, rfl⟩
  rw [← hz]
  have Hz := hide hz
  clear hz
  go_enter Tryd.func56, Tryd.ntmps56
  go_wp2_with (first | (go_at_call 70; refine (part_any _ _ _ (by decide) (by decide) _).mono ?_; rintro _ _ ⟨rfl, hq⟩; replace hg := GN.trans hg hq; clear hq))
  go_ret
  refine ⟨congrArg (fun x => Ending.returned (Value.int .u32 x)) (by have h := unhide Hz; unfold rU at h; omega), hg⟩
set_option maxHeartbeats 1000000 in
theorem rformJ_any (i d o : Nat) (w : World) : Calls Tryd.prog 57 #[.int .u32 i, .int .u32 d, .int .u32 o] w fun r w' => r = .returned (.int .u32 (rJ i d o : Nat)) ∧ GN w w' := by
  have hg := GN.refl w
  obtain ⟨z, hz⟩ : ∃ z : Nat, z = rJ i d o := ⟨_, rfl⟩
  rw [← hz]
  have Hz := hide hz
  clear hz
  go_enter Tryd.func57, Tryd.ntmps57
  go_wp2_with (first | (go_at_call 70; refine (part_any _ _ _ (by decide) (by decide) _).mono ?_; rintro _ _ ⟨rfl, hq⟩; replace hg := GN.trans hg hq; clear hq))
  go_ret
  refine ⟨congrArg (fun x => Ending.returned (Value.int .u32 x)) (by have h := unhide Hz; unfold rJ at h; omega), hg⟩
set_option maxHeartbeats 1000000 in
theorem rformS_any (i b a f o : Nat) (w : World) : Calls Tryd.prog 55 #[.int .u32 i, .int .u32 b, .int .u32 a, .int .u32 f, .int .u32 o] w fun r w' => r = .returned (.int .u32 (rS i b a f o : Nat)) ∧ GN w w' := by
  have hg := GN.refl w
  obtain ⟨z, hz⟩ : ∃ z : Nat, z = rS i b a f o := ⟨_, rfl⟩
  rw [← hz]
  have Hz := hide hz
  clear hz
  go_enter Tryd.func55, Tryd.ntmps55
  go_wp2_with (first | (go_at_call 70; refine (part_any _ _ _ (by decide) (by decide) _).mono ?_; rintro _ _ ⟨rfl, hq⟩; replace hg := GN.trans hg hq; clear hq) | (go_at_call 59; refine (rformR_any _ _ _ _ _ _ _).mono ?_; rintro _ _ ⟨rfl, hq⟩; replace hg := GN.trans hg hq; clear hq))
  go_ret
  refine ⟨congrArg (fun x => Ending.returned (Value.int .u32 x)) (by rw [unhide Hz]; rfl), hg⟩
set_option maxHeartbeats 1000000 in
theorem rformB_any (i b a f o : Nat) (w : World) : Calls Tryd.prog 58 #[.int .u32 i, .int .u32 b, .int .u32 a, .int .u32 f, .int .u32 o] w fun r w' => r = .returned (.int .u32 (rB i b a f o : Nat)) ∧ GN w w' := by
  have hg := GN.refl w
  have e1 : ((prt i 12 12 : Nat) : Int) * 64 % 4294967296 + ((prt i 10 5 : Nat) : Int) = 0 → True := fun _ => trivial
  obtain ⟨z, hz⟩ : ∃ z : Nat, z = rB i b a f o := ⟨_, rfl⟩
  rw [← hz]
  have Hz := hide hz
  clear hz
  go_enter Tryd.func58, Tryd.ntmps58
  go_wp2_with (first | (go_at_call 70; refine (part_any _ _ _ (by decide) (by decide) _).mono ?_; rintro _ _ ⟨rfl, hq⟩; replace hg := GN.trans hg hq; clear hq) | (go_at_call 59; refine (rformR_any _ _ _ _ _ _ _).mono ?_; rintro _ _ ⟨rfl, hq⟩; replace hg := GN.trans hg hq; clear hq))
  go_ret
  refine ⟨congrArg (fun x => Ending.returned (Value.int .u32 x)) (by rw [unhide Hz]; rfl), hg⟩
end Go.Proofs.YtblbgalpkodibaaDoor
