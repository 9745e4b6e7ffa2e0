/- Layer 4: both tables, of a half. -/
import Derived.Test.YtblbgalpkodibaaDoorR7
import Derived.Test.YtblbgalpkodibaaDoorNA
namespace Go.Proofs.YtblbgalpkodibaaDoor

def okD (h : Nat) : Bool := Nat.beq (exN h) (rexN h) && (and16 h 3 != 3) == Nat.blt (prt h 1 0) 3
end Go.Proofs.YtblbgalpkodibaaDoor
