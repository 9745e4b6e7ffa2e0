/- Layer 4: fields and forms. -/
import Derived.Test.YtblbgalpkodibaaDoorTools
import Derived.Deep.QuietTactic
import Derived.BigQuiet
namespace Go.Proofs.YtblbgalpkodibaaDoor
open Go.RowKit

def or32 (a b : Nat) : Nat := (a ||| b) % 4294967296
def and32 (a b : Nat) : Nat := (a &&& b) % 4294967296
def and16 (a b : Nat) : Nat := (a &&& b) % 65536
theorem bv_ofInt (n a : Nat) : (BitVec.ofInt n (a : Int)).toNat = a % 2 ^ n := by
  simp []
theorem or32_cast (a b : Nat) : ((or32 a b : Nat) : Int) = bits .or .u32 (a : Int) (b : Int) := by
  show _ = ((BitVec.ofInt 32 (a : Int) ||| BitVec.ofInt 32 (b : Int)).toNat : Int) % 2 ^ 32
  unfold or32
  rw [BitVec.toNat_or, bv_ofInt, bv_ofInt, ← Nat.or_mod_two_pow]
  omega
theorem and32_cast (a b : Nat) : ((and32 a b : Nat) : Int) = bits .and .u32 (a : Int) (b : Int) := by
  show _ = ((BitVec.ofInt 32 (a : Int) &&& BitVec.ofInt 32 (b : Int)).toNat : Int) % 2 ^ 32
  unfold and32
  rw [BitVec.toNat_and, bv_ofInt, bv_ofInt, ← Nat.and_mod_two_pow]
  omega
theorem and16_cast (a b : Nat) : ((and16 a b : Nat) : Int) = bits .and .u16 (a : Int) (b : Int) := by
  show _ = ((BitVec.ofInt 16 (a : Int) &&& BitVec.ofInt 16 (b : Int)).toNat : Int) % 2 ^ 16
  unfold and16
  rw [BitVec.toNat_and, bv_ofInt, bv_ofInt, ← Nat.and_mod_two_pow]
  omega
def fld (h hi lo : Nat) : Nat := and32 (h / 2 ^ lo) ((2 ^ (hi - lo + 1) - 1) % 4294967296)
def nI (i a f d o : Nat) : Nat := or32 (or32 (or32 (or32 (i * 1048576 % 4294967296) (a * 32768 % 4294967296)) (f * 4096 % 4294967296)) (d * 128 % 4294967296)) o
def nS (i b a f o : Nat) : Nat := or32 (or32 (or32 (or32 (or32 (and32 (i / 32) 127 * 33554432 % 4294967296) (b * 1048576 % 4294967296)) (a * 32768 % 4294967296)) (f * 4096 % 4294967296)) (and32 i 31 * 128 % 4294967296)) o
def nJ (i d o : Nat) : Nat := or32 (or32 (or32 (or32 (or32 (and32 (i / 1048576) 1 * 2147483648 % 4294967296) (and32 (i / 2) 1023 * 2097152 % 4294967296)) (and32 (i / 2048) 1 * 1048576 % 4294967296)) (and32 (i / 4096) 255 * 4096 % 4294967296)) (d * 128 % 4294967296)) o
def nB (i b a f o : Nat) : Nat := or32 (or32 (or32 (or32 (or32 (or32 (or32 (and32 (i / 4096) 1 * 2147483648 % 4294967296) (and32 (i / 32) 63 * 33554432 % 4294967296)) (b * 1048576 % 4294967296)) (a * 32768 % 4294967296)) (f * 4096 % 4294967296)) (and32 (i / 2) 15 * 256 % 4294967296)) (and32 (i / 2048) 1 * 128 % 4294967296)) o
def nR (s b a f d o : Nat) : Nat := or32 (or32 (or32 (or32 (or32 (s * 33554432 % 4294967296) (b * 1048576 % 4294967296)) (a * 32768 % 4294967296)) (f * 4096 % 4294967296)) (d * 128 % 4294967296)) o
theorem field_any (h hi lo : Nat) (h1 : h < 65536) (l1 : lo ≤ hi) (l2 : hi < 16) (w : World) : Calls Tryd.prog 62 #[.int .u16 h, .int .i64 hi, .int .i64 lo] w fun r w' => r = .returned (.int .u32 (fld h hi lo : Nat)) ∧ GN w w' := by
  have e1 : ((fld h hi lo : Nat) : Int) = bits .and .u32 ((h : Int) / 2 ^ lo) ((2 ^ (hi - lo + 1) - 1) % 4294967296) := by
    unfold fld
    rw [and32_cast]
    have hp : 1 ≤ 2 ^ (hi - lo + 1) := Nat.one_le_two_pow
    rw [Int.natCast_emod, Int.natCast_sub hp, Int.natCast_ediv, Int.natCast_pow, Int.natCast_pow]
    rfl
  have e2 : ((hi : Int) - lo + 1).toNat = hi - lo + 1 := by omega
  have hb : (2 : Nat) ^ (hi - lo + 1) ≤ 65536 := Nat.pow_le_pow_right (n := 2) (by omega) (show hi - lo + 1 ≤ 16 by omega)
  have hb2 : (1 : Nat) ≤ 2 ^ (hi - lo + 1) := Nat.one_le_two_pow
  have k1 : (0 : Int) ≤ lo := by omega
  have k2 : (0 : Int) ≤ (hi : Int) - lo + 1 := by omega
  have k3 : (lo : Int).toNat = lo := by omega
  go_enter Tryd.func62, Tryd.ntmps62
  go_wp2
  go_quiet (fail)
  go_wp2
  go_ret
  exact ⟨congrArg (fun x => Ending.returned (Value.int .u32 x)) e1.symm, (GN.refl w).drewN _⟩
theorem formI_any (i a f d o : Nat) (w : World) : Calls Tryd.prog 64 #[.int .u32 i, .int .u32 a, .int .u32 f, .int .u32 d, .int .u32 o] w fun r w' => r = .returned (.int .u32 (nI i a f d o : Nat)) ∧ GN w w' := by
  obtain ⟨z, hz⟩ : ∃ z : Int, z = ((nI i a f d o : Nat) : Int) := ⟨_, rfl⟩
  rw [← hz]
  unfold nI at hz
  simp only [or32_cast, Int.natCast_emod, Int.natCast_mul, Int.cast_ofNat_Int] at hz
  have Hz := hide hz
  clear hz
  go_enter Tryd.func64, Tryd.ntmps64
  go_wp2
  go_ret
  exact ⟨congrArg (fun x => Ending.returned (Value.int .u32 x)) (unhide Hz).symm, GN.refl w⟩
theorem formS_any (i b a f o : Nat) (w : World) : Calls Tryd.prog 65 #[.int .u32 i, .int .u32 b, .int .u32 a, .int .u32 f, .int .u32 o] w fun r w' => r = .returned (.int .u32 (nS i b a f o : Nat)) ∧ GN w w' := by
  obtain ⟨z, hz⟩ : ∃ z : Int, z = ((nS i b a f o : Nat) : Int) := ⟨_, rfl⟩
  rw [← hz]
  unfold nS at hz
  simp only [or32_cast, and32_cast, Int.natCast_emod, Int.natCast_mul, Int.natCast_ediv, Int.cast_ofNat_Int] at hz
  have Hz := hide hz
  clear hz
  go_enter Tryd.func65, Tryd.ntmps65
  go_wp2
  go_ret
  exact ⟨congrArg (fun x => Ending.returned (Value.int .u32 x)) (unhide Hz).symm, GN.refl w⟩
theorem formJ_any (i d o : Nat) (w : World) : Calls Tryd.prog 67 #[.int .u32 i, .int .u32 d, .int .u32 o] w fun r w' => r = .returned (.int .u32 (nJ i d o : Nat)) ∧ GN w w' := by
  obtain ⟨z, hz⟩ : ∃ z : Int, z = ((nJ i d o : Nat) : Int) := ⟨_, rfl⟩
  rw [← hz]
  unfold nJ at hz
  simp only [or32_cast, and32_cast, Int.natCast_emod, Int.natCast_mul, Int.natCast_ediv, Int.cast_ofNat_Int] at hz
  have Hz := hide hz
  clear hz
  go_enter Tryd.func67, Tryd.ntmps67
  go_wp2
  go_ret
  exact ⟨congrArg (fun x => Ending.returned (Value.int .u32 x)) (unhide Hz).symm, GN.refl w⟩
theorem formB_any (i b a f o : Nat) (w : World) : Calls Tryd.prog 68 #[.int .u32 i, .int .u32 b, .int .u32 a, .int .u32 f, .int .u32 o] w fun r w' => r = .returned (.int .u32 (nB i b a f o : Nat)) ∧ GN w w' := by
  obtain ⟨z, hz⟩ : ∃ z : Int, z = ((nB i b a f o : Nat) : Int) := ⟨_, rfl⟩
  rw [← hz]
  unfold nB at hz
  simp only [or32_cast, and32_cast, Int.natCast_emod, Int.natCast_mul, Int.natCast_ediv, Int.cast_ofNat_Int] at hz
  have Hz := hide hz
  clear hz
  go_enter Tryd.func68, Tryd.ntmps68
  go_wp2
  go_ret
  exact ⟨congrArg (fun x => Ending.returned (Value.int .u32 x)) (unhide Hz).symm, GN.refl w⟩
theorem formR_any (s b a f d o : Nat) (w : World) : Calls Tryd.prog 69 #[.int .u32 s, .int .u32 b, .int .u32 a, .int .u32 f, .int .u32 d, .int .u32 o] w fun r w' => r = .returned (.int .u32 (nR s b a f d o : Nat)) ∧ GN w w' := by
  obtain ⟨z, hz⟩ : ∃ z : Int, z = ((nR s b a f d o : Nat) : Int) := ⟨_, rfl⟩
  rw [← hz]
  unfold nR at hz
  simp only [or32_cast, Int.natCast_emod, Int.natCast_mul, Int.cast_ofNat_Int] at hz
  have Hz := hide hz
  clear hz
  go_enter Tryd.func69, Tryd.ntmps69
  go_wp2
  go_ret
  exact ⟨congrArg (fun x => Ending.returned (Value.int .u32 x)) (unhide Hz).symm, GN.refl w⟩

def row (r : Nat) : List Nat := match r with
  | 0 => [5, 4, 9, 8, 7, 6, 2, 3]
  | 1 => [5, 4, 3, 7, 6]
  | 2 => [5, 4, 3, 2, 6]
  | 3 => [5, 4, 3, 2, 1, 0]
  | 4 => [9, 4, 6, 8, 7, 5]
  | 5 => [11, 4, 9, 8, 10, 6, 7, 3, 2, 1, 5]
  | 6 => [8, 4, 3, 7, 6, 2, 1, 5]
  | 7 => [5, 4, 3, 8, 7, 6]
  | _ => [5, 4, 3, 2, 7, 6]
def RowAt (w : World) (r : Nat) (l : List Nat) : Prop := ∃ g o cap, w.cell? ⟨0, r, none⟩ = some (.slice (some ⟨g, o, none⟩) l.length cap) ∧ ∀ (j p : Nat), l[j]? = some p → w.cell? ⟨g, o + j, none⟩ = some (.int .i64 (p : Int))
def Tab (w : World) : Prop := ∀ r, r < 9 → RowAt w r (row r)
theorem cell_GN {w w' : World} (h : GN w w') {a : Addr} {v : Value} (hv : w.cell? a = some v) : w'.cell? a = some v := by
  unfold World.cell? at hv ⊢
  rcases Nat.lt_or_ge a.block w.heap.size with hb | hb
  · rw [World.grownBy.block h a.block hb (by simp)]; exact hv
  · rw [Array.getElem?_eq_none hb] at hv; cases hv
theorem Tab.gn {w w' : World} (h : Tab w) (hg : GN w w') : Tab w' := fun r hr => by
  obtain ⟨g, o, cap, h1, h2⟩ := h r hr
  exact ⟨g, o, cap, cell_GN hg h1, fun j p hj => cell_GN hg (h2 j p hj)⟩
/-- One place: a bit is laid, the highest place is kept. -/
def pst (b : Nat) (l : List Nat) : Nat → Nat × Nat
  | 0 => (0, 0)
  | j + 1 =>
    let s := pst b l j
    let p := l.getD j 0
    (bif and32 (b / 2 ^ (l.length - 1 - j)) 1 == 1 then or32 s.1 (2 ^ p % 4294967296) else s.1, max s.2 p)
def putN (b : Nat) (l : List Nat) (sg : Bool) : Nat :=
  let s := pst b l l.length
  bif sg && and32 (s.1 / 2 ^ s.2) 1 == 1 then or32 s.1 (4294967295 * 2 ^ s.2 % 4294967296) else s.1
theorem row_len : ∀ r, r < 9 → (row r).length ≤ 11 := by decide
theorem row_le : ∀ r, r < 9 → ∀ p ∈ row r, p ≤ 11 := by decide
theorem pst_top (b : Nat) (l : List Nat) (hl : ∀ p ∈ l, p ≤ 11) : ∀ j, (pst b l j).2 ≤ 11
  | 0 => by simp [pst]
  | j + 1 => by
    have := pst_top b l hl j
    simp only [pst]
    have h2 : l.getD j 0 ≤ 11 := by
      rw [List.getD_eq_getElem?_getD]
      cases h : l[j]? with
      | none => simp
      | some p => exact hl p (List.mem_of_getElem? h)
    omega
set_option maxRecDepth 100000 in
set_option maxHeartbeats 1000000 in
theorem put_any {w0 : World} (hT : Tab w0) (b r : Nat) (sg : Bool) (hr : r < 9) (w : World) (hg : GN w0 w) : Calls Tryd.prog 63 #[.int .u32 b, .int .i64 r, .bool sg] w fun e w' => e = .returned (.int .u32 (putN b (row r) sg : Nat)) ∧ GN w w' := by
  obtain ⟨g, o, cap, hc, hcs⟩ := (hT.gn hg) r hr
  have hlen := row_len r hr
  have hle := row_le r hr
  generalize row r = l at *
  have h0 : (0 : Int) ≤ (r : Int) := by omega
  have h9 : (r : Int) < 9 := by omega
  go_enter Tryd.func63, Tryd.ntmps63
  go_wp2
  go_loopw [8, 9, 17] (fun o8 t9 i17 wr => ∃ j : Nat, i17 = .int .i64 j ∧ j ≤ l.length ∧ o8 = .int .u32 ((pst b l j).1 : Nat) ∧ t9 = .int .i64 ((pst b l j).2 : Nat) ∧ wr = w) (fun _ _ i17 _ => l.length - (intOf i17).toNat)
  case atStart => exact ⟨0, rfl, Nat.zero_le _, rfl, rfl, rfl⟩
  case round =>
    obtain ⟨j, rfl, hj, rfl, rfl, rfl⟩ := hrel
    by_cases hjl : j < l.length
    · obtain ⟨p, hp⟩ : ∃ p, l[j]? = some p := ⟨_, List.getElem?_eq_getElem hjl⟩
      have hp11 := hle p (List.mem_of_getElem? hp)
      have hcj := hcs j p hp
      have k1 : (0 : Int) ≤ (l.length : Int) - 1 - j := by omega
      have k2 : ((l.length : Int) - 1 - j).toNat = l.length - 1 - j := by omega
      have k3 : (0 : Int) ≤ (p : Int) := by omega
      have k4 : (p : Int).toNat = p := by omega
      have k5 : (j : Int).toNat = j := by omega
      obtain ⟨out, hout⟩ : ∃ out, (pst b l j).1 = out := ⟨_, rfl⟩
      obtain ⟨top, htop⟩ : ∃ top, (pst b l j).2 = top := ⟨_, rfl⟩
      have htl := pst_top b l hle j
      rw [hout, htop]
      rw [htop] at htl
      have hgd : l.getD j 0 = p := by rw [List.getD_eq_getElem?_getD, hp]; rfl
      have hs : pst b l (j + 1) = (bif and32 (b / 2 ^ (l.length - 1 - j)) 1 == 1 then or32 out (2 ^ p % 4294967296) else out, max top p) := by
        simp only [pst, hout, htop, hgd]
      have Hs := hide hs
      clear hs hout htop hgd hp hcs
      have eb := and32_cast (b / 2 ^ (l.length - 1 - j)) 1
      rw [Int.natCast_ediv, Int.natCast_pow] at eb
      replace eb : bits .and .u32 ((b : Int) / 2 ^ (l.length - 1 - j)) 1 = _ := eb.symm
      have eo := or32_cast out (2 ^ p % 4294967296)
      rw [Int.natCast_emod, Int.natCast_pow] at eo
      replace eo : bits .or .u32 (out : Int) (2 ^ p % 4294967296) = _ := eo.symm
      generalize and32 (b / 2 ^ (l.length - 1 - j)) 1 = X at *
      by_cases hx : X = 1
      · subst hx
        rw [show ((1 : Nat) == 1) = true from rfl, cond_true] at Hs
        go_wp2
        refine ⟨⟨j + 1, by simp, by omega, by rw [unhide Hs], ?_, trivial⟩, by simp [intOf]; omega⟩
        rw [unhide Hs]
        simp only
        congr 1
        split <;> omega
      · have zx : ((X : Int) == 1) = false := beq_eq_false_iff_ne.2 (by omega)
        rw [show (X == 1) = false from beq_eq_false_iff_ne.2 hx, cond_false] at Hs
        go_wp2
        refine ⟨⟨j + 1, by simp, by omega, by rw [unhide Hs], ?_, trivial⟩, by simp [intOf]; omega⟩
        rw [unhide Hs]
        simp only
        congr 1
        split <;> omega
    · obtain rfl : j = l.length := by omega
      have htl := pst_top b l hle l.length
      obtain ⟨pn, hpn⟩ : ∃ pn, putN b l sg = pn := ⟨_, rfl⟩
      have Hpq := hide hpn
      simp only [putN] at hpn
      have Hpn := hide hpn
      clear hpn
      generalize pst b l l.length = st at *
      obtain ⟨out, top⟩ := st
      simp only at htl Hpn ⊢
      have eb := and32_cast (out / 2 ^ top) 1
      rw [Int.natCast_ediv, Int.natCast_pow] at eb
      replace eb : bits .and .u32 ((out : Int) / 2 ^ top) 1 = _ := eb.symm
      have eo := or32_cast out (4294967295 * 2 ^ top % 4294967296)
      rw [Int.natCast_emod, Int.natCast_mul, Int.natCast_pow] at eo
      replace eo : bits .or .u32 (out : Int) (4294967295 * 2 ^ top % 4294967296) = _ := eo.symm
      have k1 : min top 32 = top := by omega
      have k2 : (top : Int).toNat = top := by omega
      have k3 : (0 : Int) ≤ (top : Int) := by omega
      generalize and32 (out / 2 ^ top) 1 = X at *
      cases sg with
      | false =>
        go_wp2
        go_ret
        exact ⟨by rw [unhide Hpq, ← unhide Hpn]; rfl, GN.refl _⟩
      | true =>
        by_cases hx : X = 1
        · subst hx
          rw [show ((1 : Nat) == 1) = true from rfl] at Hpn
          go_wp2
          go_ret
          exact ⟨by rw [unhide Hpq, ← unhide Hpn]; rfl, GN.refl _⟩
        · have zx : ((X : Int) == 1) = false := beq_eq_false_iff_ne.2 (by omega)
          rw [show (X == 1) = false from beq_eq_false_iff_ne.2 hx] at Hpn
          go_wp2
          go_ret
          exact ⟨by rw [unhide Hpq, ← unhide Hpn]; rfl, GN.refl _⟩
end Go.Proofs.YtblbgalpkodibaaDoor
