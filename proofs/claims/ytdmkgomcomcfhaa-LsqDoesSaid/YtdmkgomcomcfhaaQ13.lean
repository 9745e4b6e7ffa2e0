/- Layer 23: the calls of 'fixed' as plain functions. -/
import Derived.Test.YtdmkgomcomcfhaaQ12
namespace Go.Proofs.Ytdmkgomcomcfhaa
open Go.RowKit

def X1 : Qs := comeQ Q0 (.fresh 1 8 true)
def X2 : Qs := comeQ X1 (.fresh 2 12 false)
def X3 : Qs := comeQ X2 (.fresh 2 16 false)
def X4 : Qs := (whereQ X3 2 4096 4).2
def X5 : Qs := (doneQ X4 2).2
def X6 : Qs := (whereQ X5 1 4098 2).2
def X7 : Qs := dataQ X6 1 43707
def X8 : Qs := (popQ X7).2
def X9 : Qs := squashQ X8 2
theorem x1 : mayCome Q0.l 1 true = true := by decide
theorem x2 : mayCome X1.l 2 false = true := by decide
theorem x3 : mayCome X2.l 2 false = false := by decide
theorem x4 : (lookQ X3 2).2 = false := by decide
theorem x5 : (whereQ X3 2 4096 4).1 = ([], true) := by decide
theorem x6 : (doneQ X4 2).1 = true := by decide
theorem x7 : (whereQ X5 1 4098 2).1 = ([2], true) := by decide
theorem x8 : (lookQ X6 2).2 = true ∧ (lookQ X6 2).1 = ⟨true, 0, 0⟩ := by constructor <;> rfl
theorem x9 : (dataN X6.l 1).isSome = true := by decide
theorem x10 : (lookQ X7 2).2 = true ∧ (lookQ X7 2).1 = ⟨false, 12, 2864381952⟩ := by constructor <;> rfl
theorem x11 : (popQ X7).1 = (1, true) := by decide
theorem x12 : nLd X8.l = 1 ∧ nSt X8.l = 0 := by decide
theorem x13 : (popQ X9).1.2 = false := by decide
end Go.Proofs.Ytdmkgomcomcfhaa
