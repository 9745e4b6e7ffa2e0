/- Layer 18: the state as a function of its cells; rows, counters. -/
import Derived.Test.YtblbgalpkodibaaDoorTools
namespace Go.Proofs.YtblbgalpkodibaaDoor
open Go.RowKit

/-- The kind of a cell: 16 rows of three, 64 counters, a stack of four, its size, the history. -/
def gk (i : Nat) : IntKind := if i < 48 then (if i % 3 = 2 then .i64 else .u64) else if i < 112 then .u8 else if i = 116 then .i64 else .u64
abbrev St := Nat → Int
def gv (c : St) (i : Nat) : Value := .int (gk i) (c i)
def gl (c : St) : List Value := (List.range 118).map (gv c)
def upd (c : St) (i : Nat) (x : Int) : St := fun j => if j = i then x else c j
theorem gl_get (c : St) (i : Nat) : (gl c)[i]? = if i < 118 then some (gv c i) else none := by
  unfold gl; rw [List.getElem?_map]; by_cases h : i < 118 <;> simp [h]
theorem gl_len (c : St) : (gl c).length = 118 := by simp [gl]
theorem gl_set (c : St) (i : Nat) (x : Int) : (gl c).set i (.int (gk i) x) = gl (upd c i x) := by
  apply List.ext_getElem?
  intro j
  rw [List.getElem?_set, gl_get, gl_get, gl_len]
  unfold gv upd
  by_cases h : i = j
  · subst h; simp
  · have h' : ¬ j = i := fun e => h e.symm
    simp [h, h']
/-- What holds of every state. -/
structure GI (c : St) : Prop where
  row : ∀ i, i < 48 → i % 3 ≠ 2 → 0 ≤ c i ∧ c i < 18446744073709551616
  kind : ∀ i, i < 16 → 0 ≤ c (i * 3 + 2) ∧ c (i * 3 + 2) ≤ 4
  ctr : ∀ i, i < 64 → 0 ≤ c (48 + i) ∧ c (48 + i) ≤ 3
  stk : ∀ i, i < 4 → 0 ≤ c (112 + i) ∧ c (112 + i) < 18446744073709551616
  size : 0 ≤ c 116 ∧ c 116 ≤ 4
  hist : 0 ≤ c 117 ∧ c 117 < 64
  zero : ∀ i : Nat, i < 4 → c 116 ≤ i → c (112 + i) = 0
def HP.gg (b : Nat) (c : St) : HP := HP.und (GI c) (HP.blk b (gl c).toArray 78)
section
variable {w0 w : World} {L : List HP} {b : Nat} {c : St}
theorem Heap.gg : Heap w0 w (HP.gg b c :: L) ↔ GI c ∧ Heap w0 w (HP.blk b (gl c).toArray 78 :: L) := by
  simp only [HP.gg, Heap.und]
theorem gcell {w : World} (h : w.heap[b]? = some (.cells (gl c).toArray 78 (0, 0))) {i : Nat} (hi : i < 118) : w.cell? ⟨b, i, none⟩ = some (.int (gk i) (c i)) ∧ w.frozen? ⟨b, i, none⟩ = false := by
  have := cell_blk h i
  rw [gl_get, if_pos hi] at this
  exact this
end
theorem gk_row {n : Nat} (h : n < 16) : gk (n * 3) = .u64 ∧ gk (n * 3 + 1) = .u64 ∧ gk (n * 3 + 2) = .i64 := by
  unfold gk
  rw [if_pos (by omega), if_neg (by omega), if_pos (by omega), if_neg (by omega), if_pos (by omega), if_pos (by omega)]
  exact ⟨rfl, rfl, rfl⟩
theorem gk_ctr {n : Nat} (h : n < 64) : gk (48 + n) = .u8 := by
  unfold gk; rw [if_neg (by omega), if_pos (by omega)]
theorem gk_stk {n : Nat} (h : n < 4) : gk (112 + n) = .u64 := by
  unfold gk; rw [if_neg (by omega), if_neg (by omega), if_neg (by omega)]

/-- The row of a place; its counter. -/
def rowN (pc : Int) : Nat := (pc / 2 % 16).toNat
def ctrN (pc h : Int) : Nat := (bits .xor .u64 (pc / 2) h % 64).toNat
theorem rowN_lt (pc : Int) : rowN pc < 16 := by unfold rowN; omega
theorem ctrN_lt (pc h : Int) : ctrN pc h < 64 := by unfold ctrN; omega
theorem row_any (b : Nat) (pc : Int) (p0 : 0 ≤ pc) (p1 : pc < 18446744073709551616) (w : World) :
    Calls Tryd.prog 40 #[.pointer (some ⟨b, 0, none⟩), .int .u64 pc] w fun r w' => r = .returned (.pointer (some ⟨b, rowN pc * 3, none⟩)) ∧ w' = w := by
  go_enter Tryd.func40, Tryd.ntmps40
  go_wp2
  go_ret
  exact ⟨rfl, rfl⟩
theorem xor_bd (x y : Int) (x0 : 0 ≤ x) (x1 : x < 18446744073709551616) (y0 : 0 ≤ y) (y1 : y < 18446744073709551616) : 0 ≤ bits .xor .u64 x y ∧ bits .xor .u64 x y < 18446744073709551616 := by
  rw [u64_xor x y x0 x1 y0 y1]
  have := Nat.xor_lt_two_pow (x := x.toNat) (y := y.toNat) (n := 64) (by omega) (by omega)
  omega
theorem ctr_any {w : World} {b : Nat} {c : St} (h : w.heap[b]? = some (.cells (gl c).toArray 78 (0, 0))) (hI : GI c) (pc : Int) (p0 : 0 ≤ pc) (p1 : pc < 18446744073709551616) :
    Calls Tryd.prog 41 #[.pointer (some ⟨b, 0, none⟩), .int .u64 pc] w fun r w' => r = .returned (.pointer (some ⟨b, 48 + ctrN pc (c 117), none⟩)) ∧ ∃ n, w' = w.drewN n := by
  have h117 := (gcell h (i := 117) (by omega)).1
  rw [show gk 117 = .u64 from rfl] at h117
  have hh := hI.hist
  obtain ⟨x0, x1⟩ := xor_bd (pc / 2) (c 117) (by omega) (by omega) hh.1 (by omega)
  unfold ctrN
  have e1 : (bits .xor .u64 (pc / 2) (c 117)).tmod 64 = bits .xor .u64 (pc / 2) (c 117) % 64 := Int.tmod_eq_emod_of_nonneg x0
  have e2 : IntKind.u64.wrap (bits .xor .u64 (pc / 2) (c 117) % 64) = bits .xor .u64 (pc / 2) (c 117) % 64 := by rw [IntKind.wrap_u64]; omega
  have e3 : IntKind.u64.wrap ((bits .xor .u64 (pc / 2) (c 117)).tmod 64) = bits .xor .u64 (pc / 2) (c 117) % 64 := by rw [e1, e2]
  have e4 : (0 : Int) ≤ bits .xor .u64 (pc / 2) (c 117) % 64 := by omega
  have e5 : bits .xor .u64 (pc / 2) (c 117) % 64 < 64 := by omega
  have e6 : pc / 2 ^ 1 = pc / 2 := by omega
  go_enter Tryd.func41, Tryd.ntmps41
  go_wp2
  go_quiet (fail)
  go_wp2
  go_ret
  exact ⟨rfl, _, rfl⟩
end Go.Proofs.YtblbgalpkodibaaDoor
