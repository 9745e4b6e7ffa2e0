/- A region that draws its order, two of whose operations turn the state. No program. -/
import Derived.Test.YtopbdiekfhikmaaRegion
namespace Go.Proofs.Ytopbdiekfhikmaa
open Go.RowKit

section
variable {P : Program} {ops : Array Oper} {Q : Exit → Act → World → Prop} {K : Bool → Bool → World → Prop} {i i1 i2 : Nat} {o : Oper} {a : Act}

def J2 (i1 i2 : Nat) (K : Bool → Bool → World → Prop) (c : Array Bool) (w : World) : Prop := K (c.getD i1 false) (c.getD i2 false) w
theorem J2.done {n : Nat} {w : World} (h : J2 i1 i2 K (Array.replicate n true) w) (h1 : i1 < n) (h2 : i2 < n) : K true true w := by
  unfold J2 at h
  simp [h1, h2] at h
  exact h
end
end Go.Proofs.Ytopbdiekfhikmaa
