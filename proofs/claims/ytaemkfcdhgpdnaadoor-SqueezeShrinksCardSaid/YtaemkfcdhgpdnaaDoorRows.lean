/-
  NARROWER THAN 'FOR EVERY INPUT', by the rows' own cells (each row's printed sentence says how): SqueezeExpands: laid · SqueezeShrinks: laid · SqueezeBack: laid · SqueezeRegs: laid.
  DERIVED. THE GIVEN ROWS OF THIS SEAT. 4 by the template 'for every input the law returns true; each argument reads behind the call as it read before'; 0 by the template 'total and deterministic' (their statements: YtaemkfcdhgpdnaaDoorTotals.lean).
  GIVEN WITH THE SEED: the statements are not yours to turn. If you find one false, say at which input.
  Laid BY PROGRAM, IN A SANDBOX (cutbox-rows.mjs): the forced cells as the released guide's own fill.sh prints them over the translation ffb9b6bde098b6b3… (all of the seat's roots in one cut). By AI agents, Wed Nov 11 2026. No macro, syntax, notation, axiom, sorry.
-/
import Derived.Test.YtaemkfcdhgpdnaaDoorChecked
import GoSem.Claim
import GoSem.ClaimJoined
import GoSem.ClaimMapViews
import Derived.JoinedTies
import Derived.KernelRfl
namespace Go.Proofs.YtaemkfcdhgpdnaaDoor
/- THE CELL 'sum', in the pinned program and in every row, IS THE sha256 OF THE DUMP (.gsa) THAT YtaemkfcdhgpdnaaDoorProg.lean LOADS. Nothing in Lean hashes anything: it is a label: what it is worth is what the hold of that sum in a sandbox is worth. -/
noncomputable def Tryd.pinned : Pinned := { name := "ytaemkfcdhgpdnaadoor", sum := "ffb9b6bde098b6b367dc1b8c10c99d20bf0b413a77ba7dee09b5682402dcce00", checked := Tryd.checked }
namespace Rows
def none {H : Type} : Left H := { results := [], args := [] }

/- WHAT THE LISTED PACKAGE-LEVEL VARIABLES READ AS WHEN THE CALL BEGINS. Each datum BY PROGRAM (the guide's laid-datum.mjs) off the statement by which the dump's own 'gosem.cut.vars' lays the variable. In a bare row this is a premise. The card (YtaemkfcdhgpdnaaDoorCards.lean) ties it to the program's text. -/
def laid_tandem_squeeze_places {H : Type} : DataW H := .agg [.slice [.lit (.int .i64 5), .lit (.int .i64 4), .lit (.int .i64 9), .lit (.int .i64 8), .lit (.int .i64 7), .lit (.int .i64 6), .lit (.int .i64 2), .lit (.int .i64 3)] [], .slice [.lit (.int .i64 5), .lit (.int .i64 4), .lit (.int .i64 3), .lit (.int .i64 7), .lit (.int .i64 6)] [], .slice [.lit (.int .i64 5), .lit (.int .i64 4), .lit (.int .i64 3), .lit (.int .i64 2), .lit (.int .i64 6)] [], .slice [.lit (.int .i64 5), .lit (.int .i64 4), .lit (.int .i64 3), .lit (.int .i64 2), .lit (.int .i64 1), .lit (.int .i64 0)] [], .slice [.lit (.int .i64 9), .lit (.int .i64 4), .lit (.int .i64 6), .lit (.int .i64 8), .lit (.int .i64 7), .lit (.int .i64 5)] [], .slice [.lit (.int .i64 11), .lit (.int .i64 4), .lit (.int .i64 9), .lit (.int .i64 8), .lit (.int .i64 10), .lit (.int .i64 6), .lit (.int .i64 7), .lit (.int .i64 3), .lit (.int .i64 2), .lit (.int .i64 1), .lit (.int .i64 5)] [], .slice [.lit (.int .i64 8), .lit (.int .i64 4), .lit (.int .i64 3), .lit (.int .i64 7), .lit (.int .i64 6), .lit (.int .i64 2), .lit (.int .i64 1), .lit (.int .i64 5)] [], .slice [.lit (.int .i64 5), .lit (.int .i64 4), .lit (.int .i64 3), .lit (.int .i64 8), .lit (.int .i64 7), .lit (.int .i64 6)] [], .slice [.lit (.int .i64 5), .lit (.int .i64 4), .lit (.int .i64 3), .lit (.int .i64 2), .lit (.int .i64 7), .lit (.int .i64 6)] []]

/-- 'tandemlaw04.SqueezeExpands': WHATEVER THE INPUT: true; the input reads as it did. -/
def squeezeExpandsSpec : ChangeSpec := { name := "squeezeExpands", fn := fun _ => fun
  | [d] => { results := [.lit (.bool true)], args := [d] }
  | _ => none }
def squeezeExpandsRow : OpenClaim := { program := "ytaemkfcdhgpdnaadoor", sum := "ffb9b6bde098b6b367dc1b8c10c99d20bf0b413a77ba7dee09b5682402dcce00", func := "tandem/tandemlaw04.SqueezeExpands", spec := "squeezeExpands", named := ["tandem/squeeze.places"], apart := false, laid := [("tandem/squeeze.places", laid_tandem_squeeze_places)] }
def SqueezeExpandsSaid : Prop := squeezeExpandsRow.holds Tryd.pinned (OpenSpec.ofChange squeezeExpandsSpec)

/-- ITS FALSE NEIGHBOUR: 'it returns false'. Refute it at one input. -/
def squeezeExpandsWrong : ChangeSpec := { name := "squeezeExpands", fn := fun _ => fun
  | [d] => { results := [.lit (.bool false)], args := [d] }
  | _ => none }
def SqueezeExpandsWrongFalsely : Prop := squeezeExpandsRow.holds Tryd.pinned (OpenSpec.ofChange squeezeExpandsWrong)

/-- 'tandemlaw04.SqueezeShrinks': WHATEVER THE INPUT: true; the input reads as it did. -/
def squeezeShrinksSpec : ChangeSpec := { name := "squeezeShrinks", fn := fun _ => fun
  | [d] => { results := [.lit (.bool true)], args := [d] }
  | _ => none }
def squeezeShrinksRow : OpenClaim := { program := "ytaemkfcdhgpdnaadoor", sum := "ffb9b6bde098b6b367dc1b8c10c99d20bf0b413a77ba7dee09b5682402dcce00", func := "tandem/tandemlaw04.SqueezeShrinks", spec := "squeezeShrinks", named := ["tandem/squeeze.places"], apart := false, laid := [("tandem/squeeze.places", laid_tandem_squeeze_places)] }
def SqueezeShrinksSaid : Prop := squeezeShrinksRow.holds Tryd.pinned (OpenSpec.ofChange squeezeShrinksSpec)

/-- ITS FALSE NEIGHBOUR: 'it returns false'. Refute it at one input. -/
def squeezeShrinksWrong : ChangeSpec := { name := "squeezeShrinks", fn := fun _ => fun
  | [d] => { results := [.lit (.bool false)], args := [d] }
  | _ => none }
def SqueezeShrinksWrongFalsely : Prop := squeezeShrinksRow.holds Tryd.pinned (OpenSpec.ofChange squeezeShrinksWrong)

/-- 'tandemlaw04.SqueezeBack': WHATEVER THE INPUT: true; the input reads as it did. -/
def squeezeBackSpec : ChangeSpec := { name := "squeezeBack", fn := fun _ => fun
  | [d1, d2] => { results := [.lit (.bool true)], args := [d1, d2] }
  | _ => none }
def squeezeBackRow : OpenClaim := { program := "ytaemkfcdhgpdnaadoor", sum := "ffb9b6bde098b6b367dc1b8c10c99d20bf0b413a77ba7dee09b5682402dcce00", func := "tandem/tandemlaw04.SqueezeBack", spec := "squeezeBack", named := ["tandem/squeeze.places"], apart := false, laid := [("tandem/squeeze.places", laid_tandem_squeeze_places)] }
def SqueezeBackSaid : Prop := squeezeBackRow.holds Tryd.pinned (OpenSpec.ofChange squeezeBackSpec)

/-- ITS FALSE NEIGHBOUR: 'it returns false'. Refute it at one input. -/
def squeezeBackWrong : ChangeSpec := { name := "squeezeBack", fn := fun _ => fun
  | [d1, d2] => { results := [.lit (.bool false)], args := [d1, d2] }
  | _ => none }
def SqueezeBackWrongFalsely : Prop := squeezeBackRow.holds Tryd.pinned (OpenSpec.ofChange squeezeBackWrong)

/-- 'tandemlaw04.SqueezeRegs': WHATEVER THE INPUT: true; the input reads as it did. -/
def squeezeRegsSpec : ChangeSpec := { name := "squeezeRegs", fn := fun _ => fun
  | [d] => { results := [.lit (.bool true)], args := [d] }
  | _ => none }
def squeezeRegsRow : OpenClaim := { program := "ytaemkfcdhgpdnaadoor", sum := "ffb9b6bde098b6b367dc1b8c10c99d20bf0b413a77ba7dee09b5682402dcce00", func := "tandem/tandemlaw04.SqueezeRegs", spec := "squeezeRegs", named := ["tandem/squeeze.places"], apart := false, laid := [("tandem/squeeze.places", laid_tandem_squeeze_places)] }
def SqueezeRegsSaid : Prop := squeezeRegsRow.holds Tryd.pinned (OpenSpec.ofChange squeezeRegsSpec)

/-- ITS FALSE NEIGHBOUR: 'it returns false'. Refute it at one input. -/
def squeezeRegsWrong : ChangeSpec := { name := "squeezeRegs", fn := fun _ => fun
  | [d] => { results := [.lit (.bool false)], args := [d] }
  | _ => none }
def SqueezeRegsWrongFalsely : Prop := squeezeRegsRow.holds Tryd.pinned (OpenSpec.ofChange squeezeRegsWrong)

/- THE SECOND FORM. 'bulk': how many values and letters a reading holds, each counted each time it is reached (what is shared counts as often as it is met; a slice's spare places count too). A statement '..UptoSaid' is the law's where the arguments, and the package variables that the reading takes, are together of bulk at most 1048576: NARROWER than '..Said'. Prove '..Said' where nothing that the law and all that it calls make is longer than what came in: it says more and counts as full. Else prove '..UptoSaid'. A law counts once. -/
mutual
def uptoBulk {H : Type} : DataW H → Nat
  | .lit (.string bytes) => bytes.length + 1
  | .lit _ => 1
  | .nil => 1
  | .ptr d => uptoBulk d + 1
  | .slice elems spare => uptoBulkAll elems + uptoBulkAll spare + 1
  | .agg parts => uptoBulkAll parts + 1
  | .iface _ d => uptoBulk d + 1
  | .map entries => uptoBulkEntries entries + 1
  | .held _ => 1
def uptoBulkAll {H : Type} : List (DataW H) → Nat
  | [] => 0
  | d :: r => uptoBulk d + uptoBulkAll r
def uptoBulkEntries {H : Type} : List (Lit × DataW H) → Nat
  | [] => 0
  | x :: r => uptoBulkEntry x + uptoBulkEntries r
def uptoBulkEntry {H : Type} : Lit × DataW H → Nat
  | (.string bytes, d) => bytes.length + uptoBulk d + 1
  | (_, d) => uptoBulk d + 1
 end
def uptoSmall : (H : Type) → List (DataW H) → Bool := fun _ ds => decide (uptoBulkAll ds ≤ 1048576)
def OpenSpec.upto (s : _root_.Go.ChangeSpec) : _root_.Go.OpenSpec := { _root_.Go.OpenSpec.ofChange s with cond := some uptoSmall }

/-- 'tandemlaw04.SqueezeExpands', WHERE WHAT IT READS IS OF BULK AT MOST 1048576: true; the input reads as it did. -/
def squeezeExpandsUptoRow : OpenClaim := { program := "ytaemkfcdhgpdnaadoor", sum := "ffb9b6bde098b6b367dc1b8c10c99d20bf0b413a77ba7dee09b5682402dcce00", func := "tandem/tandemlaw04.SqueezeExpands", spec := "squeezeExpands", named := ["tandem/squeeze.places"], apart := false, laid := [("tandem/squeeze.places", laid_tandem_squeeze_places)], narrowed := true }
def SqueezeExpandsUptoSaid : Prop := squeezeExpandsUptoRow.holds Tryd.pinned (OpenSpec.upto squeezeExpandsSpec)

/-- 'tandemlaw04.SqueezeShrinks', WHERE WHAT IT READS IS OF BULK AT MOST 1048576: true; the input reads as it did. -/
def squeezeShrinksUptoRow : OpenClaim := { program := "ytaemkfcdhgpdnaadoor", sum := "ffb9b6bde098b6b367dc1b8c10c99d20bf0b413a77ba7dee09b5682402dcce00", func := "tandem/tandemlaw04.SqueezeShrinks", spec := "squeezeShrinks", named := ["tandem/squeeze.places"], apart := false, laid := [("tandem/squeeze.places", laid_tandem_squeeze_places)], narrowed := true }
def SqueezeShrinksUptoSaid : Prop := squeezeShrinksUptoRow.holds Tryd.pinned (OpenSpec.upto squeezeShrinksSpec)

/-- 'tandemlaw04.SqueezeBack', WHERE WHAT IT READS IS OF BULK AT MOST 1048576: true; the input reads as it did. -/
def squeezeBackUptoRow : OpenClaim := { program := "ytaemkfcdhgpdnaadoor", sum := "ffb9b6bde098b6b367dc1b8c10c99d20bf0b413a77ba7dee09b5682402dcce00", func := "tandem/tandemlaw04.SqueezeBack", spec := "squeezeBack", named := ["tandem/squeeze.places"], apart := false, laid := [("tandem/squeeze.places", laid_tandem_squeeze_places)], narrowed := true }
def SqueezeBackUptoSaid : Prop := squeezeBackUptoRow.holds Tryd.pinned (OpenSpec.upto squeezeBackSpec)

/-- 'tandemlaw04.SqueezeRegs', WHERE WHAT IT READS IS OF BULK AT MOST 1048576: true; the input reads as it did. -/
def squeezeRegsUptoRow : OpenClaim := { program := "ytaemkfcdhgpdnaadoor", sum := "ffb9b6bde098b6b367dc1b8c10c99d20bf0b413a77ba7dee09b5682402dcce00", func := "tandem/tandemlaw04.SqueezeRegs", spec := "squeezeRegs", named := ["tandem/squeeze.places"], apart := false, laid := [("tandem/squeeze.places", laid_tandem_squeeze_places)], narrowed := true }
def SqueezeRegsUptoSaid : Prop := squeezeRegsUptoRow.holds Tryd.pinned (OpenSpec.upto squeezeRegsSpec)

end Rows
end Go.Proofs.YtaemkfcdhgpdnaaDoor
