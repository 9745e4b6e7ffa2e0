/- Layer 3: Decode. -/
import Derived.Test.YtopbdiekfhikmaaD5
import Derived.Test.YtopbdiekfhikmaaD8
import Derived.Test.YtopbdiekfhikmaaD9
namespace Go.Proofs.Ytopbdiekfhikmaa
open Go.RowKit
def brK : Nat → Int
  | 0 => 5 | 1 => 6 | 4 => 7 | 5 => 8 | 6 => 9 | 7 => 10 | _ => 0
def ldK : Nat → Int
  | 0 => 11 | 1 => 11 | 2 => 11 | 3 => 11 | 4 => 11 | 5 => 11 | 6 => 11 | _ => 0
def ldS : Nat → Int
  | 0 => 1 | 1 => 2 | 2 => 4 | 3 => 8 | 4 => 1 | 5 => 2 | 6 => 4 | _ => 0
def ldU : Nat → Bool
  | 4 => true | 5 => true | 6 => true | _ => false
theorem ix_branches (f : Nat) (z : Int) (hz : (f : Int) = z) (h : f < 8) (w : World) : (Instr.index 38 (.agg #[.int .i64 5, .int .i64 6, .int .i64 0, .int .i64 0, .int .i64 7, .int .i64 8, .int .i64 9, .int .i64 10]) (.int .i64 z)).run Try.prog w = .ok (.int .i64 (brK f)) w := by
  subst hz
  rcases lt8 h with rfl | rfl | rfl | rfl | rfl | rfl | rfl | rfl <;> kernel_rfl
theorem ix_loads (f : Nat) (z : Int) (hz : (f : Int) = z) (h : f < 8) (w : World) : (Instr.index 42 (.agg #[.int .i64 11, .int .i64 1, .bool false, .int .i64 11, .int .i64 2, .bool false, .int .i64 11, .int .i64 4, .bool false, .int .i64 11, .int .i64 8, .bool false, .int .i64 11, .int .i64 1, .bool true, .int .i64 11, .int .i64 2, .bool true, .int .i64 11, .int .i64 4, .bool true, .int .i64 0, .int .i64 0, .bool false]) (.int .i64 z)).run Try.prog w = .ok (.agg #[.int .i64 (ldK f), .int .i64 (ldS f), .bool (ldU f)]) w := by
  subst hz
  rcases lt8 h with rfl | rfl | rfl | rfl | rfl | rfl | rfl | rfl <;> kernel_rfl
theorem c3c {w : World} {g : Nat} {v0 v1 v2 : Value} {T : TypeId} (h : w.heap[g]? = some (.cells #[v0, v1, v2] T (0, 0))) : (w.cell? ⟨g, 0, none⟩ = some v0 ∧ w.frozen? ⟨g, 0, none⟩ = false) ∧ (w.cell? ⟨g, 1, none⟩ = some v1 ∧ w.frozen? ⟨g, 1, none⟩ = false) ∧ (w.cell? ⟨g, 2, none⟩ = some v2 ∧ w.frozen? ⟨g, 2, none⟩ = false) := by
  have key := fun o => cell_blk (xs := [v0, v1, v2]) (T := T) h o
  exact ⟨key 0, key 1, key 2⟩
theorem cut3 {w W0 : World} {c : Code} {Q : Exit → Act → World → Prop} {a : Act} {g6 : Nat} {z x : Array Value} (hg : GN w W0) (hz : W0.heap[w.heap.size]? = some (.cells z 25 (0, 0))) (h6 : W0.heap[g6]? = some (.cells x 41 (0, 0)))
    (k : ∀ W, GN w W → W.heap[w.heap.size]? = some (.cells z 25 (0, 0)) → W.heap[g6]? = some (.cells x 41 (0, 0)) → Code.wp Try.prog c Q a W) : Code.wp Try.prog c Q a W0 := k W0 hg hz h6
def floatN (b : Nat) : Ins := floK (fd b 0 7) (fd b 12 3) (fd b 25 2) (fd b 27 5) (fd b 20 5) (fd b 7 5) (fd b 15 5) (fd b 20 5) (immI b) (immS b)
def fallN (y : Ins) : Ins := if y.kind = 0 then zero else y
def decK (b op f rd r1 r2 : Nat) : Ins :=
  if op = 55 then ⟨1, rd, 0, 0, 0, 0, 0, 0, immU b, false, false, false⟩
  else if op = 23 then ⟨2, rd, 0, 0, 0, 0, 0, 0, immU b, false, false, false⟩
  else if op = 111 then ⟨3, rd, 0, 0, 0, 0, 0, 0, immJ b, false, false, false⟩
  else if op = 103 then (if f = 0 then ⟨4, rd, r1, 0, 0, 0, 0, 0, immI b, false, false, false⟩ else fallN (floatN b))
  else if op = 99 then (if brK f ≠ 0 then ⟨brK f, 0, r1, r2, 0, 0, 0, 0, immB b, false, false, false⟩ else fallN (floatN b))
  else if op = 3 then (if ldK f ≠ 0 then ⟨ldK f, rd, r1, 0, 0, 0, 0, ldS f, immI b, false, ldU f, false⟩ else fallN (floatN b))
  else if op = 35 then (if f < 4 then ⟨12, 0, r1, r2, 0, 0, 0, ((2 ^ f : Nat) : Int), immS b, false, false, false⟩ else fallN (floatN b))
  else if op = 19 then immK f (fd b 26 6) (fd b 20 6) rd r1 (immI b) false
  else if op = 27 then immK f (fd b 26 6) (fd b 20 6) rd r1 (immI b) true
  else if op = 51 then regK f (fd b 25 7) rd r1 r2 false
  else if op = 59 then regK f (fd b 25 7) rd r1 r2 true
  else if op = 15 then (if f < 2 then ⟨((31 + f : Nat) : Int), 0, 0, 0, 0, 0, 0, 0, 0, false, false, false⟩ else fallN (floatN b))
  else if op = 115 then sysK b f (fd b 25 7) rd r1 r2 (fd b 20 12)
  else if op = 47 then atomI f (fd b 27 5) rd r1 r2
  else fallN (floatN b)
def decN (b : Nat) : Ins := decK b (fd b 0 7) (fd b 12 3) (fd b 7 5) (fd b 15 5) (fd b 20 5)
end Go.Proofs.Ytopbdiekfhikmaa
