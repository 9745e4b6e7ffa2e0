/- Layer 4: the document's bits and forms. / Layer 4: the document's lists. / Layer 4: the document's immediates. -/
import Derived.Test.YtblbgalpkodibaaDoorS5
import Derived.Test.YtblbgalpkodibaaDoorTools
import Derived.Deep.QuietTactic
import Derived.BigQuiet
namespace Go.Proofs.YtblbgalpkodibaaDoor
open Go.RowKit

/-- Some bits of a number, the highest first. -/
def bt (n hi : Nat) : Nat → Nat
  | 0 => 0
  | j + 1 => (2 * bt n hi j % 4294967296 + and32 (n / 2 ^ (hi - j)) 1) % 4294967296
def prt (n hi lo : Nat) : Nat := bt n hi (hi + 1 - lo)
theorem bit_same (h n : Nat) (hh : h < 65536) (hn : n < 16) (w : World) : Calls Tryd.prog 49 #[.int .u16 h, .int .i64 n] w fun e w' => e = .returned (.int .u32 (and32 (h / 2 ^ n) 1 : Nat)) ∧ w' = w := by
  have k1 : (0 : Int) ≤ (n : Int) := by omega
  have k2 : (n : Int).toNat = n := by omega
  have eb := and32_cast (h / 2 ^ n) 1
  rw [Int.natCast_ediv, Int.natCast_pow] at eb
  replace eb : bits .and .u32 ((h : Int) / 2 ^ n) 1 = _ := eb.symm
  have hl : (h : Int) / 2 ^ n < 65536 := by
    have : (0 : Int) < 2 ^ n := Int.pow_pos (by decide)
    have := Int.ediv_le_self (2 ^ n) (show (0 : Int) ≤ h by omega)
    omega
  have h0 : 0 ≤ (h : Int) / 2 ^ n := Int.ediv_nonneg (by omega) (Int.le_of_lt (Int.pow_pos (by decide)))
  go_enter Tryd.func49, Tryd.ntmps49
  go_wp2
  go_ret
  exact ⟨rfl, rfl⟩
theorem bit_any (h n : Nat) (hh : h < 65536) (hn : n < 16) (w : World) : Calls Tryd.prog 49 #[.int .u16 h, .int .i64 n] w fun e w' => e = .returned (.int .u32 (and32 (h / 2 ^ n) 1 : Nat)) ∧ GN w w' :=
  (bit_same h n hh hn w).mono fun _ _ ⟨h1, h2⟩ => ⟨h1, by rw [h2]; exact GN.refl w⟩
set_option maxRecDepth 100000 in
set_option maxHeartbeats 1000000 in
theorem part_any (n hi lo : Nat) (hl : lo ≤ hi) (h31 : hi < 32) (w : World) : Calls Tryd.prog 70 #[.int .u32 n, .int .i64 hi, .int .i64 lo] w fun e w' => e = .returned (.int .u32 (prt n hi lo : Nat)) ∧ GN w w' := by
  obtain ⟨w0, hw0⟩ : ∃ w0, w = w0 := ⟨_, rfl⟩
  have hg : GN w0 w := by rw [hw0]; exact GN.refl _
  obtain ⟨lim, hlim⟩ : ∃ l, hi + 1 - lo = l := ⟨_, rfl⟩
  have hp : prt n hi lo = bt n hi lim := by unfold prt; rw [hlim]
  have Hp := hide hp
  rw [hw0]
  have hw0' := hide hw0
  clear hp
  rw [← hw0]
  go_enter Tryd.func70, Tryd.ntmps70
  go_wp2
  go_loopw [7, 8] (fun o7 i8 wr => ∃ j : Nat, i8 = .int .i64 ((hi : Int) - j) ∧ j ≤ lim ∧ o7 = .int .u32 ((bt n hi j : Nat) : Int) ∧ GN w0 wr) (fun _ i8 _ => (intOf i8 + 1 - lo).toNat)
  case atStart => exact ⟨0, by simp, Nat.zero_le _, rfl, hg⟩
  case round =>
    clear hg
    obtain ⟨j, rfl, hj, rfl, hg⟩ := hrel
    by_cases hjl : j < lim
    · have k0 : (lo : Int) ≤ (hi : Int) - j := by omega
      have k1 : (0 : Int) ≤ (hi : Int) - j := by omega
      obtain ⟨m, hm⟩ : ∃ m, hi - j = m := ⟨_, rfl⟩
      have k2 : ((hi : Int) - j) = (m : Int) := by omega
      have hb : bt n hi (j + 1) = (2 * bt n hi j % 4294967296 + and32 (n / 2 ^ m) 1) % 4294967296 := by rw [← hm]; rfl
      have Hb := hide hb
      have k3 : (m : Int).toNat = m := by omega
      have hm32 : m < 32 := by omega
      
      have eb := and32_cast (n / 2 ^ m) 1
      rw [Int.natCast_ediv, Int.natCast_pow] at eb
      replace eb : bits .and .u32 ((n : Int) / 2 ^ m) 1 = _ := eb.symm
      clear hb
      rw [k2]
      generalize bt n hi j = B at *
      generalize and32 (n / 2 ^ m) 1 = X at *
      go_wp2
      refine ⟨⟨j + 1, by go_num, by omega, ?_, hg⟩, by simp [intOf]; omega⟩
      rw [unhide Hb]
      refine congrArg (Value.int .u32) ?_
      omega
    · obtain rfl : j = lim := by omega
      have k0 : ¬ ((lo : Int) ≤ (hi : Int) - (j : Nat)) := by omega
      go_wp2
      go_ret
      exact ⟨by rw [unhide Hp]; rfl, hg⟩
set_option maxRecDepth 100000 in
set_option maxHeartbeats 1000000 in
theorem rbits_any (n hi lo : Nat) (hh : n < 65536) (hl : lo ≤ hi) (h31 : hi < 32 ∧ hi < 16) (w : World) : Calls Tryd.prog 33 #[.int .u16 n, .int .i64 hi, .int .i64 lo] w fun e w' => e = .returned (.int .u32 (prt n hi lo : Nat)) ∧ GN w w' := by
  obtain ⟨w0, hw0⟩ : ∃ w0, w = w0 := ⟨_, rfl⟩
  have hg : GN w0 w := by rw [hw0]; exact GN.refl _
  obtain ⟨lim, hlim⟩ : ∃ l, hi + 1 - lo = l := ⟨_, rfl⟩
  have hp : prt n hi lo = bt n hi lim := by unfold prt; rw [hlim]
  have Hp := hide hp
  rw [hw0]
  have hw0' := hide hw0
  clear hp
  rw [← hw0]
  go_enter Tryd.func33, Tryd.ntmps33
  go_wp2
  go_loopw [7, 8] (fun o7 i8 wr => ∃ j : Nat, i8 = .int .i64 ((hi : Int) - j) ∧ j ≤ lim ∧ o7 = .int .u32 ((bt n hi j : Nat) : Int) ∧ GN w0 wr) (fun _ i8 _ => (intOf i8 + 1 - lo).toNat)
  case atStart => exact ⟨0, by simp, Nat.zero_le _, rfl, hg⟩
  case round =>
    clear hg
    obtain ⟨j, rfl, hj, rfl, hg⟩ := hrel
    by_cases hjl : j < lim
    · have k0 : (lo : Int) ≤ (hi : Int) - j := by omega
      have k1 : (0 : Int) ≤ (hi : Int) - j := by omega
      obtain ⟨m, hm⟩ : ∃ m, hi - j = m := ⟨_, rfl⟩
      have k2 : ((hi : Int) - j) = (m : Int) := by omega
      have hb : bt n hi (j + 1) = (2 * bt n hi j % 4294967296 + and32 (n / 2 ^ m) 1) % 4294967296 := by rw [← hm]; rfl
      have Hb := hide hb
      have k3 : (m : Int).toNat = m := by omega
      have hm32 : m < 32 := by omega
      have hm16 : m < 16 := by omega
      have eb := and32_cast (n / 2 ^ m) 1
      rw [Int.natCast_ediv, Int.natCast_pow] at eb
      replace eb : bits .and .u32 ((n : Int) / 2 ^ m) 1 = _ := eb.symm
      clear hb
      rw [k2]
      generalize bt n hi j = B at *
      clear eb
      go_wp2_with (go_at_call 49; refine (bit_any _ _ (by assumption) (by omega) _).mono ?_; rintro _ _ ⟨rfl, hq⟩; replace hg := GN.trans hg hq; clear hq)
      refine ⟨⟨j + 1, by go_num, by omega, ?_, hg⟩, by simp [intOf]; omega⟩
      rw [unhide Hb]
      refine congrArg (Value.int .u32) ?_
      omega
    · obtain rfl : j = lim := by omega
      have k0 : ¬ ((lo : Int) ≤ (hi : Int) - (j : Nat)) := by omega
      go_wp2
      go_ret
      exact ⟨by rw [unhide Hp]; rfl, hg⟩
def rR (s b a f d o : Nat) : Nat := (((((s * 32 + b) * 32 + a) * 8 + f) * 32 + d) * 128 + o) % 4294967296
def rI (i a f d o : Nat) : Nat := ((((prt i 11 0 * 32 + a) * 8 + f) * 32 + d) * 128 + o) % 4294967296
def rU (i d o : Nat) : Nat := ((prt i 31 12 * 32 + d) * 128 + o) % 4294967296
def rJ (i d o : Nat) : Nat := (((((prt i 20 20 * 1024 + prt i 10 1) * 2 + prt i 11 11) * 256 + prt i 19 12) * 32 + d) * 128 + o) % 4294967296
def rS (i b a f o : Nat) : Nat := rR (prt i 11 5) b a f (prt i 4 0) o
def rB (i b a f o : Nat) : Nat := rR ((prt i 12 12 * 64 + prt i 10 5) % 4294967296) b a f ((prt i 4 1 * 2 + prt i 11 11) % 4294967296) o
set_option maxHeartbeats 1000000 in
theorem rformR_any (s b a f d o : Nat) (w : World) : Calls Tryd.prog 59 #[.int .u32 s, .int .u32 b, .int .u32 a, .int .u32 f, .int .u32 d, .int .u32 o] w fun r w' => r = .returned (.int .u32 (rR s b a f d o : Nat)) ∧ GN w w' := by
  have hg := GN.refl w
  obtain ⟨z, hz⟩ : ∃ z : Nat, z = rR s b a f d o := ⟨_, rfl⟩
  rw [← hz]
  have Hz := hide hz
  clear hz
  go_enter Tryd.func59, Tryd.ntmps59
  go_wp2
  go_ret
  refine ⟨congrArg (fun x => Ending.returned (Value.int .u32 x)) (by have h := unhide Hz; unfold rR at h; omega), hg⟩
set_option maxHeartbeats 1000000 in
theorem rformI_any (i a f d o : Nat) (w : World) : Calls Tryd.prog 54 #[.int .u32 i, .int .u32 a, .int .u32 f, .int .u32 d, .int .u32 o] w fun r w' => r = .returned (.int .u32 (rI i a f d o : Nat)) ∧ GN w w' := by
  have hg := GN.refl w
  obtain ⟨z, hz⟩ : ∃ z : Nat, z = rI i a f d o := ⟨_, rfl⟩
  rw [← hz]
  have Hz := hide hz
  clear hz
  go_enter Tryd.func54, Tryd.ntmps54
  go_wp2_with (first | (go_at_call 70; refine (part_any _ _ _ (by decide) (by decide) _).mono ?_; rintro _ _ ⟨rfl, hq⟩; replace hg := GN.trans hg hq; clear hq))
  go_ret
  refine ⟨congrArg (fun x => Ending.returned (Value.int .u32 x)) (by have h := unhide Hz; unfold rI at h; omega), hg⟩
set_option maxHeartbeats 1000000 in
theorem rformU_any (i d o : Nat) (w : World) : Calls Tryd.prog 56 #[.int .u32 i, .int .u32 d, .int .u32 o] w fun r w' => r = .returned (.int .u32 (rU i d o : Nat)) ∧ GN w w' := by
  have hg := GN.refl w
  obtain ⟨z, hz⟩ : ∃ z : Nat, z = rU i d o := ⟨_, rfl⟩
  rw [← hz]
  have Hz := hide hz
  clear hz
  go_enter Tryd.func56, Tryd.ntmps56
  go_wp2_with (first | (go_at_call 70; refine (part_any _ _ _ (by decide) (by decide) _).mono ?_; rintro _ _ ⟨rfl, hq⟩; replace hg := GN.trans hg hq; clear hq))
  go_ret
  refine ⟨congrArg (fun x => Ending.returned (Value.int .u32 x)) (by have h := unhide Hz; unfold rU at h; omega), hg⟩
set_option maxHeartbeats 1000000 in
theorem rformJ_any (i d o : Nat) (w : World) : Calls Tryd.prog 57 #[.int .u32 i, .int .u32 d, .int .u32 o] w fun r w' => r = .returned (.int .u32 (rJ i d o : Nat)) ∧ GN w w' := by
  have hg := GN.refl w
  obtain ⟨z, hz⟩ : ∃ z : Nat, z = rJ i d o := ⟨_, rfl⟩
  rw [← hz]
  have Hz := hide hz
  clear hz
  go_enter Tryd.func57, Tryd.ntmps57
  go_wp2_with (first | (go_at_call 70; refine (part_any _ _ _ (by decide) (by decide) _).mono ?_; rintro _ _ ⟨rfl, hq⟩; replace hg := GN.trans hg hq; clear hq))
  go_ret
  refine ⟨congrArg (fun x => Ending.returned (Value.int .u32 x)) (by have h := unhide Hz; unfold rJ at h; omega), hg⟩
set_option maxHeartbeats 1000000 in
theorem rformS_any (i b a f o : Nat) (w : World) : Calls Tryd.prog 55 #[.int .u32 i, .int .u32 b, .int .u32 a, .int .u32 f, .int .u32 o] w fun r w' => r = .returned (.int .u32 (rS i b a f o : Nat)) ∧ GN w w' := by
  have hg := GN.refl w
  obtain ⟨z, hz⟩ : ∃ z : Nat, z = rS i b a f o := ⟨_, rfl⟩
  rw [← hz]
  have Hz := hide hz
  clear hz
  go_enter Tryd.func55, Tryd.ntmps55
  go_wp2_with (first | (go_at_call 70; refine (part_any _ _ _ (by decide) (by decide) _).mono ?_; rintro _ _ ⟨rfl, hq⟩; replace hg := GN.trans hg hq; clear hq) | (go_at_call 59; refine (rformR_any _ _ _ _ _ _ _).mono ?_; rintro _ _ ⟨rfl, hq⟩; replace hg := GN.trans hg hq; clear hq))
  go_ret
  refine ⟨congrArg (fun x => Ending.returned (Value.int .u32 x)) (by rw [unhide Hz]; rfl), hg⟩
set_option maxHeartbeats 1000000 in
theorem rformB_any (i b a f o : Nat) (w : World) : Calls Tryd.prog 58 #[.int .u32 i, .int .u32 b, .int .u32 a, .int .u32 f, .int .u32 o] w fun r w' => r = .returned (.int .u32 (rB i b a f o : Nat)) ∧ GN w w' := by
  have hg := GN.refl w
  have e1 : ((prt i 12 12 : Nat) : Int) * 64 % 4294967296 + ((prt i 10 5 : Nat) : Int) = 0 → True := fun _ => trivial
  obtain ⟨z, hz⟩ : ∃ z : Nat, z = rB i b a f o := ⟨_, rfl⟩
  rw [← hz]
  have Hz := hide hz
  clear hz
  go_enter Tryd.func58, Tryd.ntmps58
  go_wp2_with (first | (go_at_call 70; refine (part_any _ _ _ (by decide) (by decide) _).mono ?_; rintro _ _ ⟨rfl, hq⟩; replace hg := GN.trans hg hq; clear hq) | (go_at_call 59; refine (rformR_any _ _ _ _ _ _ _).mono ?_; rintro _ _ ⟨rfl, hq⟩; replace hg := GN.trans hg hq; clear hq))
  go_ret
  refine ⟨congrArg (fun x => Ending.returned (Value.int .u32 x)) (by rw [unhide Hz]; rfl), hg⟩
end Go.Proofs.YtblbgalpkodibaaDoor
namespace Go.Proofs.YtblbgalpkodibaaDoor
open Go.RowKit

def iv (l : List Nat) : List Value := l.map fun p : Nat => .int .i64 (p : Int)
theorem iv_snoc (l : List Nat) (p : Nat) : iv (l ++ [p]) = iv l ++ [.int .i64 (p : Int)] := by simp [iv]
/-- From a number down, so many. -/
def dnl (hi : Int) (n : Nat) : List Nat := (List.range n).map fun i : Nat => (hi - (i : Int)).toNat
theorem dnl_succ {hi : Int} {j p : Nat} (h : hi - j = p) : dnl hi (j + 1) = dnl hi j ++ [p] := by
  unfold dnl
  rw [List.range_succ, List.map_append]
  simp
  omega
def IntsAt (w : World) (v : Value) (l : List Nat) : Prop := ∃ g o cap, v = .slice (some ⟨g, o, none⟩) l.length cap ∧ ∀ (j p : Nat), l[j]? = some p → w.cell? ⟨g, o + j, none⟩ = some (.int .i64 (p : Int))
theorem IntsAt.gn {w w' : World} {v : Value} {l : List Nat} (h : IntsAt w v l) (hg : GN w w') : IntsAt w' v l := by
  obtain ⟨g, o, cap, h1, h2⟩ := h
  exact ⟨g, o, cap, h1, fun j p hj => cell_GN hg (h2 j p hj)⟩
theorem Sl.one (w : World) (T : TypeId) (x : Value) {k : Nat} (hk : k = w.heap.size) : Sl (w.alloc (.cells #[x] T)) 1 (.slice (some ⟨k, 0, none⟩) 1 1) 1 [x] := by
  subst hk
  exact ⟨rfl, .inr ⟨w.heap.size, 0, 1, _, T, rfl, heap_new' w _, Nat.le_refl _, by simp, by simp⟩⟩
theorem rinfo3 : (Tryd.prog.info? 3).map (fun i => (i.zero, i.size, i.bytes)) = some (some (.int .i64 0), 1, 8) := by kernel_rfl
theorem rinfo3p : ∃ i, Tryd.prog.info? 3 = some i ∧ i.zero = some (.int .i64 0) ∧ i.size = 1 ∧ i.bytes = 8 := by
  have h := rinfo3
  cases hi : Tryd.prog.info? 3 with
  | none => rw [hi] at h; cases h
  | some i =>
    rw [hi] at h
    simp only [Option.map_some, Option.some.injEq, Prod.mk.injEq] at h
    exact ⟨i, rfl, h.1, h.2.1, h.2.2⟩
theorem ints_of_heap {w0 w : World} {v : Value} {l : List Nat} (hne : l ≠ []) (h : Heap w0 w [HP.slw v 1 l.length (iv l)]) : IntsAt w v l := by
  have hsl := h.slw
  have hpos : 0 < l.length := List.length_pos_iff.2 hne
  obtain ⟨g, o, cap, hv, _, _, _, _, _⟩ := hsl.cell (j := 0) (by omega)
  refine ⟨g, o, cap, hv, fun j p hj => ?_⟩
  have hjl := (List.getElem?_eq_some_iff.1 hj).1
  obtain ⟨g', o', cap', hv', _, _, _, hc, _⟩ := hsl.cell (j := j) (by omega)
  rw [hv] at hv'
  injection hv' with a _ _
  injection a with a
  injection a with a1 a2
  subst a1 a2
  rw [hc]
  simp [iv, hj]
set_option maxRecDepth 100000 in
set_option maxHeartbeats 2000000 in
theorem rows_any (hi lo hi2 lo2 : Int) (lim lim2 : Nat) (l0 : 0 ≤ lo) (h31 : hi < 32) (hl : (lim : Int) = hi + 1 - lo) (hlp : 0 < lim) (m0 : 0 ≤ lo2) (m31 : hi2 < 32) (hm0 : -1 ≤ hi2) (hm : (lim2 : Int) = hi2 + 1 - lo2) (_hm2 : 0 < lim2 → 0 ≤ hi2) (w : World) :
    Calls Tryd.prog 50 #[.int .i64 hi, .int .i64 lo, .int .i64 hi2, .int .i64 lo2] w fun e w' => ∃ v, e = .returned v ∧ IntsAt w' v (dnl hi lim ++ dnl hi2 lim2) ∧ GN w w' := by
  have hne : dnl hi lim ++ dnl hi2 lim2 ≠ [] := by
    intro e
    have := congrArg List.length e
    simp [dnl] at this
    omega
  obtain ⟨i0, hi0, hz0, hz1, hz2⟩ := rinfo3p
  go_enter Tryd.func50, Tryd.ntmps50
  go_wp2
  have hst := (Heap.nil w).emptyW (sz := 1) 3
  go_loopw [9, 10] (fun v i wr => ∃ j : Nat, i = .int .i64 ((hi : Int) - j) ∧ j ≤ lim ∧ Heap w wr [HP.slw v 1 ((dnl hi j)).length (iv (dnl hi j))]) (fun _ i _ => (intOf i + 1 - lo).toNat)
  case atStart => exact ⟨0, by simp, Nat.zero_le _, hst⟩
  case round =>
    obtain ⟨j, rfl, hj, hJ⟩ := hrel
    clear hst
    obtain ⟨A, cap, rfl, _⟩ := hJ.slw.parts
    by_cases hjl : j < lim
    · have k0 : (lo : Int) ≤ (hi : Int) - j := by omega
      skip
      obtain ⟨p, hp⟩ : ∃ p : Nat, (hi : Int) - j = p := ⟨((hi : Int) - j).toNat, by omega⟩
      have hl : (dnl hi (j + 1)) = (dnl hi j) ++ [p] := by
        exact dnl_succ (by omega)
      have Hl := hide hl
      clear hl
      have hlen : ((dnl hi j)).length ≤ 64 := by simp [dnl]; omega
      rw [hp] at k0 ⊢
      have hone : ∀ y ∈ [Value.int .i64 (p : Int)], y.oneCell' = true := by simp [Value.oneCell']
      go_wp2_with (at_builtin; refine wpList_append_sl rfl _ _ 84 rfl 3 i0 _ 1 8 Tryd.underlying84 hi0 hz0 hz1 hz2 rfl rfl rfl (hJ.slw.alloc _) (Sl.one _ 3 (.int .i64 (p : Int)) (by simp)) hone (by omega) (by omega) ?_; intro v' w' hsl hgr hblk hsp)
      obtain ⟨A', cap', rfl, _⟩ := hsl.parts
      have K2 : Heap w w' [HP.slw (.slice A' (((dnl hi j)).length + 1) cap') 1 ((dnl hi (j + 1))).length (iv (dnl hi (j + 1)))] := by
        rw [unhide Hl, iv_snoc, @List.length_append _ (dnl hi j) [p]]
        exact (hJ.alloc _).appendw hsl hgr hblk
      go_wp2
      refine ⟨⟨j + 1, by go_num, by omega, ?_⟩, by simp [intOf]; omega⟩
      exact K2
    · obtain rfl : lim = j := by omega
      have k0 : ¬ ((lo : Int) ≤ (hi : Int) - (lim : Nat)) := by omega
      go_wp2
      have hJ0 := hJ
      go_loopw [9, 11] (fun v i wr => ∃ j : Nat, i = .int .i64 ((hi2 : Int) - j) ∧ j ≤ lim2 ∧ Heap w wr [HP.slw v 1 ((dnl hi lim ++ dnl hi2 j)).length (iv (dnl hi lim ++ dnl hi2 j))]) (fun _ i _ => (intOf i + 1 - lo2).toNat)
      case atStart => exact ⟨0, by simp, Nat.zero_le _, (by rw [show dnl hi2 0 = [] from rfl, List.append_nil]; exact hJ0)⟩
      case round =>
        obtain ⟨j, rfl, hj, hJ⟩ := hrel
        clear hJ0
        obtain ⟨A, cap, rfl, _⟩ := hJ.slw.parts
        by_cases hjl : j < lim2
        · have k0 : (lo2 : Int) ≤ (hi2 : Int) - j := by omega
          have k1 : (0 : Int) ≤ hi2 := by omega
          obtain ⟨p, hp⟩ : ∃ p : Nat, (hi2 : Int) - j = p := ⟨((hi2 : Int) - j).toNat, by omega⟩
          have hl : (dnl hi lim ++ dnl hi2 (j + 1)) = (dnl hi lim ++ dnl hi2 j) ++ [p] := by
            rw [List.append_assoc]; congr 1; exact dnl_succ (by omega)
          have Hl := hide hl
          clear hl
          have hlen : ((dnl hi lim ++ dnl hi2 j)).length ≤ 64 := by simp [dnl]; omega
          rw [hp] at k0 ⊢
          have hone : ∀ y ∈ [Value.int .i64 (p : Int)], y.oneCell' = true := by simp [Value.oneCell']
          go_wp2_with (at_builtin; refine wpList_append_sl rfl _ _ 84 rfl 3 i0 _ 1 8 Tryd.underlying84 hi0 hz0 hz1 hz2 rfl rfl rfl (hJ.slw.alloc _) (Sl.one _ 3 (.int .i64 (p : Int)) (by simp)) hone (by omega) (by omega) ?_; intro v' w' hsl hgr hblk hsp)
          obtain ⟨A', cap', rfl, _⟩ := hsl.parts
          have K2 : Heap w w' [HP.slw (.slice A' (((dnl hi lim ++ dnl hi2 j)).length + 1) cap') 1 ((dnl hi lim ++ dnl hi2 (j + 1))).length (iv (dnl hi lim ++ dnl hi2 (j + 1)))] := by
            rw [unhide Hl, iv_snoc, @List.length_append _ (dnl hi lim ++ dnl hi2 j) [p]]
            exact (hJ.alloc _).appendw hsl hgr hblk
          go_wp2
          refine ⟨⟨j + 1, by go_num, by omega, ?_⟩, by simp [intOf]; omega⟩
          exact K2
        · obtain rfl : lim2 = j := by omega
          have k0 : ¬ ((lo2 : Int) ≤ (hi2 : Int) - (lim2 : Nat)) := by omega
          go_wp2
          go_ret
          refine ⟨_, rfl, ?_, gn_of_below hJ.below⟩
          have hi := ints_of_heap hne hJ
          first | exact hi | (rw [List.length_append] at hi; exact hi)

end Go.Proofs.YtblbgalpkodibaaDoor
namespace Go.Proofs.YtblbgalpkodibaaDoor
open Go.RowKit

/-- What an immediate's loop has gathered: the bits, the highest place. -/
def ist (h : Nat) (l1 l2 : List Nat) : Nat → Nat × Nat
  | 0 => (0, 0)
  | j + 1 => (((ist h l1 l2 j).1 + and32 (h / 2 ^ l1.getD j 0) 1 * 2 ^ l2.getD j 0 % 4294967296) % 4294967296, max (ist h l1 l2 j).2 (l2.getD j 0))
def sx (out high n0 : Nat) : Nat → Nat
  | 0 => out
  | j + 1 => (sx out high n0 j + high * 2 ^ (n0 + j) % 4294967296) % 4294967296
def immN (h : Nat) (l1 l2 : List Nat) (sg : Bool) : Nat :=
  bif sg then sx (ist h l1 l2 l2.length).1 (and32 ((ist h l1 l2 l2.length).1 / 2 ^ (ist h l1 l2 l2.length).2) 1) ((ist h l1 l2 l2.length).2 + 1) (32 - ((ist h l1 l2 l2.length).2 + 1)) else (ist h l1 l2 l2.length).1
theorem ist_top (h : Nat) (l1 l2 : List Nat) (hl : ∀ p ∈ l2, p < 32) : ∀ j, (ist h l1 l2 j).2 < 32
  | 0 => by simp [ist]
  | j + 1 => by
    have := ist_top h l1 l2 hl j
    simp only [ist]
    have h2 : l2.getD j 0 < 32 := by
      rw [List.getD_eq_getElem?_getD]
      cases h : l2[j]? with
      | none => simp
      | some p => exact hl p (List.mem_of_getElem? h)
    omega
set_option maxRecDepth 100000 in
set_option maxHeartbeats 2000000 in
theorem imm_any {w0 : World} (h : Nat) (hh : h < 65536) (v1 v2 : Value) (l1 l2 : List Nat) (sg : Bool) (hb1 : ∀ p ∈ l1, p < 16) (hb2 : ∀ p ∈ l2, p < 32) (hlen : l2.length ≤ l1.length ∧ l1.length < 64) (w : World) (_hg : GN w0 w) (hA : IntsAt w v1 l1) (hB : IntsAt w v2 l2) :
    Calls Tryd.prog 51 #[.int .u16 h, v1, v2, .bool sg] w fun e w' => e = .returned (.int .u32 (immN h l1 l2 sg : Nat)) ∧ GN w w' := by
  have hA0 := hide hA
  have hB0 := hide hB
  obtain ⟨hlen, hl64⟩ := hlen
  obtain ⟨g1, o1, c1, rfl, hA1⟩ := hA
  obtain ⟨g2, o2, c2, rfl, hB1⟩ := hB
  go_enter Tryd.func51, Tryd.ntmps51
  go_wp2
  go_loopw [9, 10, 11] (fun o9 t10 i11 wr => ∃ j : Nat, i11 = .int .i64 j ∧ j ≤ l2.length ∧ o9 = .int .u32 ((ist h l1 l2 j).1 : Nat) ∧ t10 = .int .i64 ((ist h l1 l2 j).2 : Nat) ∧ GN w wr) (fun _ _ i11 _ => l2.length - (intOf i11).toNat)
  case atStart => exact ⟨0, rfl, Nat.zero_le _, rfl, rfl, GN.refl w⟩
  case round =>
    obtain ⟨j, rfl, hj, rfl, rfl, hg2⟩ := hrel
    by_cases hjl : j < l2.length
    · obtain ⟨p, hp⟩ : ∃ p, l2[j]? = some p := ⟨_, List.getElem?_eq_getElem hjl⟩
      obtain ⟨f, hf⟩ : ∃ f, l1[j]? = some f := ⟨_, List.getElem?_eq_getElem (by omega)⟩
      have hp32 := hb2 p (List.mem_of_getElem? hp)
      have hf16 := hb1 f (List.mem_of_getElem? hf)
      have cp := cell_GN hg2 (hB1 j p hp)
      have cf := cell_GN hg2 (hA1 j f hf)
      have hs : ist h l1 l2 (j + 1) = (((ist h l1 l2 j).1 + and32 (h / 2 ^ f) 1 * 2 ^ p % 4294967296) % 4294967296, max (ist h l1 l2 j).2 p) := by
        simp only [ist, List.getD_eq_getElem?_getD, hp, hf, Option.getD_some]
      have htop := ist_top h l1 l2 hb2 j
      generalize ist h l1 l2 j = st at *
      obtain ⟨out, top⟩ := st
      simp only at hs htop ⊢
      have Hs := hide hs
      clear hs hp hf hA1 hB1
      have k1 : (0 : Int) ≤ (p : Int) := by omega
      have k2 : (p : Int).toNat = p := by omega
      have k3 : (j : Int) < (l1.length : Int) := by omega
      have k4 : (j : Int) < (l2.length : Int) := by omega
      have k5 : min p 32 = p := by omega
      have k6 : j < 64 := by omega
      go_wp2
      go_quiet (exact Calls.quiet_of_same (bit_same _ _ hh hf16 _))
      have hg3 := GN.drewN hg2 nq
      have Hg3 := hide hg3
      replace cp := cell_GN ((GN.refl _).drewN nq) cp
      generalize World.drewN _ nq = wd at *
      clear hg2 hg3
      go_wp2
      all_goals
        refine ⟨⟨j + 1, by go_num, by omega, ?_, ?_, unhide Hg3⟩, by simp [intOf]; omega⟩
        · rw [unhide Hs]
          refine congrArg (Value.int .u32) ?_
          simp only [Int.natCast_emod, Int.natCast_add, Int.natCast_mul, Int.natCast_pow, Int.cast_ofNat_Int]
        · rw [unhide Hs]
          refine congrArg (Value.int .i64) ?_
          show _ = ((max top p : Nat) : Int)
          omega
    · obtain rfl : j = l2.length := by omega
      have htop := ist_top h l1 l2 hb2 l2.length
      obtain ⟨pn, hpn⟩ : ∃ pn, immN h l1 l2 sg = pn := ⟨_, rfl⟩
      have Hpq := hide hpn
      unfold immN at hpn
      have Hpn := hide hpn
      clear hpn hA1 hB1
      generalize ist h l1 l2 l2.length = st at *
      obtain ⟨out, top⟩ := st
      simp only at htop Hpn ⊢
      cases sg with
      | false =>
        go_wp2
        go_ret
        exact ⟨by rw [unhide Hpq, ← unhide Hpn]; rfl, hg2⟩
      | true =>
        have eb := and32_cast (out / 2 ^ top) 1
        rw [Int.natCast_ediv, Int.natCast_pow] at eb
        replace eb : bits .and .u32 ((out : Int) / 2 ^ top) 1 = _ := eb.symm
        have k1 : min top 32 = top := by omega
        have k2 : (top : Int).toNat = top := by omega
        have k3 : (0 : Int) ≤ (top : Int) := by omega
        have hX : sx out (and32 (out / 2 ^ top) 1) (top + 1) (32 - (top + 1)) = pn := unhide Hpn
        have HX := hide hX
        clear hX
        generalize and32 (out / 2 ^ top) 1 = X at *
        obtain ⟨lim, hlim⟩ : ∃ m, 32 - (top + 1) = m := ⟨_, rfl⟩
        have Hlim := hide hlim
        rw [hlim] at HX
        clear hlim
        go_wp2
        go_loopw [9, 13] (fun o9 i13 wr2 => ∃ m : Nat, i13 = .int .i64 ((top : Int) + 1 + m) ∧ m ≤ lim ∧ o9 = .int .u32 ((sx out X (top + 1) m : Nat) : Int) ∧ GN w wr2) (fun _ i13 _ => 32 - (intOf i13).toNat)
        case atStart => exact ⟨0, by simp, Nat.zero_le _, rfl, hg2⟩
        case round =>
          clear hg2
          obtain ⟨m, rfl, hm, rfl, hg2⟩ := hrel
          have hlim := unhide Hlim
          by_cases hml : m < lim
          · have q0 : (top : Int) + 1 + m < 32 := by omega
            obtain ⟨n, hn⟩ : ∃ n, top + 1 + m = n := ⟨_, rfl⟩
            have q1 : (top : Int) + 1 + m = (n : Int) := by omega
            have q2 : (n : Int).toNat = n := by omega
            have q3 : min n 32 = n := by omega
            have q4 : (0 : Int) ≤ (n : Int) := by omega
            have hs : sx out X (top + 1) (m + 1) = (sx out X (top + 1) m + X * 2 ^ n % 4294967296) % 4294967296 := by rw [← hn]; rfl
            have Hs := hide hs
            clear hs eb
            rw [q1] at q0 ⊢
            generalize sx out X (top + 1) m = S at *
            clear hlim
            go_wp2
            refine ⟨⟨m + 1, by go_num, by omega, ?_, hg2⟩, by simp [intOf]; omega⟩
            rw [unhide Hs]
            refine congrArg (Value.int .u32) ?_
            simp only [Int.natCast_emod, Int.natCast_add, Int.natCast_mul, Int.natCast_pow, Int.cast_ofNat_Int]
          · obtain rfl : lim = m := by omega
            have q0 : ¬ ((top : Int) + 1 + (lim : Nat) < 32) := by omega
            go_wp2
            go_ret
            exact ⟨by rw [unhide Hpq, ← unhide HX]; rfl, hg2⟩
end Go.Proofs.YtblbgalpkodibaaDoor
