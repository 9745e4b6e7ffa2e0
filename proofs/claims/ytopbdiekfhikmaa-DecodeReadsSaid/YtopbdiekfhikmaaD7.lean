/- Layer 3: operations of floats (what they are). -/
import Derived.Test.YtopbdiekfhikmaaD6
namespace Go.Proofs.Ytopbdiekfhikmaa
open Go.RowKit
theorem cutx {w W0 : World} {c : Code} {Q : Exit → Act → World → Prop} {a : Act} {z x : Array Value} (hg : GN w W0) (hx : W0.heap[w.heap.size]? = some (.cells x 25 (0, 0))) (hz : W0.heap[w.heap.size + 1]? = some (.cells z 25 (0, 0)))
    (k : ∀ W, GN w W → W.heap[w.heap.size]? = some (.cells x 25 (0, 0)) → W.heap[w.heap.size + 1]? = some (.cells z 25 (0, 0)) → Code.wp Try.prog c Q a W) : Code.wp Try.prog c Q a W0 := k W0 hg hx hz
def opX (k rd r1 r2 : Nat) (sz : Int) (us wd : Bool) : Ins := ⟨k, rd, r1, r2, 0, 0, 0, sz, 0, false, us, wd⟩
def operK (f h s rd r1 r2 : Nat) (sz : Int) : Ins :=
  if h < 4 then roundN f (opX (55 + h) rd r1 r2 sz false false)
  else if h = 4 then (if 3 ≤ f then zero else opX (64 + f) rd r1 r2 sz false false)
  else if h = 5 then (if 2 ≤ f then zero else opX (67 + f) rd r1 r2 sz false false)
  else if h = 20 then (if 2 < f then zero else opX (71 - f) rd r1 r2 sz false false)
  else if h = 11 ∧ s = 0 then roundN f (opX 59 rd r1 0 sz false false)
  else if h = 8 ∧ (sz = 4 ∧ s = 1 ∨ sz = 8 ∧ s = 0) then roundN f (opX 75 rd r1 0 sz false false)
  else if h = 24 ∧ s < 4 then roundN f (opX 73 rd r1 0 sz (s % 2 == 1) (decide (s < 2)))
  else if h = 26 ∧ s < 4 then roundN f (opX 74 rd r1 0 sz (s % 2 == 1) (decide (s < 2)))
  else if h = 28 ∧ s = 0 ∧ f = 0 then opX 76 rd r1 0 sz false false
  else if h = 28 ∧ s = 0 ∧ f = 1 then opX 72 rd r1 0 sz false false
  else if h = 30 ∧ s = 0 ∧ f = 0 then opX 77 rd r1 0 sz false false
  else zero
end Go.Proofs.Ytopbdiekfhikmaa
