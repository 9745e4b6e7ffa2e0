/- Layer 3: bits of operations of floats. -/
import Derived.Test.YtopbdiekfhikmaaE3
namespace Go.Proofs.Ytopbdiekfhikmaa
open Go.RowKit
def szI (sz : Int) : Int := IntKind.u32.wrap (IntKind.u32.wrap (IntKind.i64.wrap (Int.tdiv sz 8)) * 33554432)
def szN (sz : Int) : Nat := (szI sz).toNat
theorem szN_cast (sz : Int) : ((szN sz : Nat) : Int) = szI sz := by
  have : 0 ≤ szI sz := by
    unfold szI
    simp [IntKind.wrap, IntKind.signed, IntKind.bits]
    omega
  unfold szN
  omega
def floB (sz rd r1 r2 : Int) : Nat := or32 (or32 83 (szN sz)) (rN rd r1 r2)
def cvN (us wd : Bool) : Nat := or32 us.toNat ((!wd).toNat * 2) * 1048576 % 4294967296
def an7 (a : Nat) : Nat := a / 128 * 128
def floN (k rd r1 r2 r3 rm sz : Int) (us wd : Bool) : Nat × Bool :=
  if 55 ≤ k ∧ k ≤ 58 then (or32 (or32 (floB sz rd r1 r2) ((k - 55).toNat * 134217728)) (putN rm 12 3), true)
  else if k = 59 then (or32 (or32 (floB sz rd r1 r2) 1476395008) (putN rm 12 3), true)
  else if 60 ≤ k ∧ k ≤ 63 then (or32 (or32 (or32 (or32 (an7 (floB sz rd r1 r2)) 67) ((k - 60).toNat * 4)) (putN r3 27 5)) (putN rm 12 3), true)
  else if 64 ≤ k ∧ k ≤ 66 then (or32 (or32 (floB sz rd r1 r2) 536870912) ((k - 64).toNat * 4096), true)
  else if 67 ≤ k ∧ k ≤ 68 then (or32 (or32 (floB sz rd r1 r2) 671088640) ((k - 67).toNat * 4096), true)
  else if 69 ≤ k ∧ k ≤ 71 then (or32 (or32 (floB sz rd r1 r2) 2684354560) ((71 - k).toNat * 4096), true)
  else if k = 75 then (or32 (or32 (or32 (floB sz rd r1 r2) 1073741824) ((sz == 4).toNat * 1048576 % 4294967296)) (putN rm 12 3), true)
  else if k = 73 then (or32 (or32 (or32 (floB sz rd r1 r2) 3221225472) (cvN us wd)) (putN rm 12 3), true)
  else if k = 74 then (or32 (or32 (or32 (floB sz rd r1 r2) 3489660928) (cvN us wd)) (putN rm 12 3), true)
  else if k = 76 then (or32 (floB sz rd r1 r2) 3758096384, true)
  else if k = 72 then (or32 (or32 (floB sz rd r1 r2) 3758096384) 4096, true)
  else if k = 77 then (or32 (floB sz rd r1 r2) 4026531840, true)
  else (0, false)
theorem cutx1 {w W0 : World} {c : Code} {Q : Exit → Act → World → Prop} {a : Act} {x : Array Value} (hg : GN w W0) (hx : W0.heap[w.heap.size]? = some (.cells x 25 (0, 0)))
    (k : ∀ W, GN w W → W.heap[w.heap.size]? = some (.cells x 25 (0, 0)) → Code.wp Try.prog c Q a W) : Code.wp Try.prog c Q a W0 := k W0 hg hx
theorem run_loadRow {w : World} {g : Nat} {v0 v1 v2 v3 v4 v5 v6 v7 v8 v9 v10 v11 : Value} (h : w.heap[g]? = some (.cells #[v0, v1, v2, v3, v4, v5, v6, v7, v8, v9, v10, v11] 25 (0, 0))) :
    (Instr.loadAt 25 (.pointer (some ⟨g, 0, none⟩))).run Try.prog w = .ok (.agg #[v0, v1, v2, v3, v4, v5, v6, v7, v8, v9, v10, v11]) w := by
  exact run_loadAt_mid w g 0 25 [v0, v1, v2, v3, v4, v5, v6, v7, v8, v9, v10, v11] _ (range_blk (xs := [v0, v1, v2, v3, v4, v5, v6, v7, v8, v9, v10, v11]) h 0 12 _ rfl) Try.underlying25 rfl (by kernel_rfl)
theorem an7_cast (sz rd r1 r2 : Int) : ((an7 (floB sz rd r1 r2) : Nat) : Int) = bits .andNot .u32 (floB sz rd r1 r2 : Nat) 127 := by
  have hb : floB sz rd r1 r2 < 4294967296 := Nat.mod_lt _ (by decide)
  generalize floB sz rd r1 r2 = b at *
  show _ = IntKind.u32.wrap ((BitVec.ofInt 32 (b : Int) &&& ~~~BitVec.ofInt 32 127).toNat : Int)
  have e1 : ((b : Int) % (2 ^ 32 : Nat)).toNat = b := by omega
  have e2 : 2 ^ 32 - 1 - ((127 : Int) % (2 ^ 32 : Nat)).toNat = (2 ^ 25 - 1) <<< 7 := by decide
  rw [BitVec.toNat_and, BitVec.toNat_not, bv_toNat, bv_toNat, e1, e2, nat_and_high 7 25 b (by omega)]
  unfold an7 IntKind.wrap
  simp [IntKind.signed, IntKind.bits]
  omega
theorem or_run (a b : Nat) (w : World) : (binOp .or 22 (.int .u32 (a : Int)) (.int .u32 (b : Int))).run Try.prog w = .ok (.int .u32 ((or32 a b : Nat) : Int)) w := by
  rw [or32_cast]
  kernel_rfl
theorem or_run83 (sz : Int) (w : World) : (binOp .or 22 (.int .u32 83) (.int .u32 (szI sz))).run Try.prog w = .ok (.int .u32 ((or32 83 (szN sz) : Nat) : Int)) w := by
  rw [← szN_cast]
  exact or_run 83 (szN sz) w
end Go.Proofs.Ytopbdiekfhikmaa
