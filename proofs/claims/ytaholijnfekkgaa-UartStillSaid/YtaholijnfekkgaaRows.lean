/-
  No cell of these rows narrows 'for every input' (looked for: loops, veiled, ifaces, maps, wideKeys, modest, calm, conditions, laid).
  DERIVED. THE GIVEN ROWS OF THIS SEAT. 4 by the template 'for every input the law returns true; each argument reads behind the call as it read before'; 0 by the template 'total and deterministic' (their statements: YtaholijnfekkgaaTotals.lean).
  GIVEN WITH THE SEED: the statements are not yours to turn. If you find one false, say at which input.
  Laid BY PROGRAM, IN A SANDBOX (cutbox-rows.mjs): the forced cells as the released guide's own fill.sh prints them over the translation 85e405025eed194d… (all of the seat's roots in one cut). By AI agents, Wed Nov 11 2026. No macro, syntax, notation, axiom, sorry.
-/
import Derived.Test.YtaholijnfekkgaaChecked
import GoSem.Claim
import GoSem.ClaimJoined
import GoSem.ClaimMapViews
import Derived.JoinedTies
import Derived.KernelRfl
namespace Go.Proofs.Ytaholijnfekkgaa
/- THE CELL 'sum', in the pinned program and in every row, IS THE sha256 OF THE DUMP (.gsa) THAT YtaholijnfekkgaaProg.lean LOADS. Nothing in Lean hashes anything: it is a label: what it is worth is what the hold of that sum in a sandbox is worth. -/
noncomputable def Try.pinned : Pinned := { name := "ytaholijnfekkgaa", sum := "85e405025eed194d68a0618fc1300b22d01fbfa961100b38815be83cd877599e", checked := Try.checked }
namespace Rows
def none {H : Type} : Left H := { results := [], args := [] }

/-- 'tandemlaw09.UartDoes': WHATEVER THE INPUT: true; the input reads as it did. -/
def uartDoesSpec : ChangeSpec := { name := "uartDoes", fn := fun _ => fun
  | [d] => { results := [.lit (.bool true)], args := [d] }
  | _ => none }
def uartDoesRow : OpenClaim := { program := "ytaholijnfekkgaa", sum := "85e405025eed194d68a0618fc1300b22d01fbfa961100b38815be83cd877599e", func := "tandem/tandemlaw09.UartDoes", spec := "uartDoes", apart := false }
def UartDoesSaid : Prop := uartDoesRow.holds Try.pinned (OpenSpec.ofChange uartDoesSpec)

/-- ITS FALSE NEIGHBOUR: 'it returns false'. Refute it at one input. -/
def uartDoesWrong : ChangeSpec := { name := "uartDoes", fn := fun _ => fun
  | [d] => { results := [.lit (.bool false)], args := [d] }
  | _ => none }
def UartDoesWrongFalsely : Prop := uartDoesRow.holds Try.pinned (OpenSpec.ofChange uartDoesWrong)

/-- 'tandemlaw09.UartOrders': WHATEVER THE INPUT: true; the input reads as it did. -/
def uartOrdersSpec : ChangeSpec := { name := "uartOrders", fn := fun _ => fun
  | [d] => { results := [.lit (.bool true)], args := [d] }
  | _ => none }
def uartOrdersRow : OpenClaim := { program := "ytaholijnfekkgaa", sum := "85e405025eed194d68a0618fc1300b22d01fbfa961100b38815be83cd877599e", func := "tandem/tandemlaw09.UartOrders", spec := "uartOrders", apart := false }
def UartOrdersSaid : Prop := uartOrdersRow.holds Try.pinned (OpenSpec.ofChange uartOrdersSpec)

/-- ITS FALSE NEIGHBOUR: 'it returns false'. Refute it at one input. -/
def uartOrdersWrong : ChangeSpec := { name := "uartOrders", fn := fun _ => fun
  | [d] => { results := [.lit (.bool false)], args := [d] }
  | _ => none }
def UartOrdersWrongFalsely : Prop := uartOrdersRow.holds Try.pinned (OpenSpec.ofChange uartOrdersWrong)

/-- 'tandemlaw09.UartRoom': WHATEVER THE INPUT: true; the input reads as it did. -/
def uartRoomSpec : ChangeSpec := { name := "uartRoom", fn := fun _ => fun
  | [d] => { results := [.lit (.bool true)], args := [d] }
  | _ => none }
def uartRoomRow : OpenClaim := { program := "ytaholijnfekkgaa", sum := "85e405025eed194d68a0618fc1300b22d01fbfa961100b38815be83cd877599e", func := "tandem/tandemlaw09.UartRoom", spec := "uartRoom", apart := false }
def UartRoomSaid : Prop := uartRoomRow.holds Try.pinned (OpenSpec.ofChange uartRoomSpec)

/-- ITS FALSE NEIGHBOUR: 'it returns false'. Refute it at one input. -/
def uartRoomWrong : ChangeSpec := { name := "uartRoom", fn := fun _ => fun
  | [d] => { results := [.lit (.bool false)], args := [d] }
  | _ => none }
def UartRoomWrongFalsely : Prop := uartRoomRow.holds Try.pinned (OpenSpec.ofChange uartRoomWrong)

/-- 'tandemlaw09.UartStill': WHATEVER THE INPUT: true; the input reads as it did. -/
def uartStillSpec : ChangeSpec := { name := "uartStill", fn := fun _ => fun
  | [d1, d2, d3, d4] => { results := [.lit (.bool true)], args := [d1, d2, d3, d4] }
  | _ => none }
def uartStillRow : OpenClaim := { program := "ytaholijnfekkgaa", sum := "85e405025eed194d68a0618fc1300b22d01fbfa961100b38815be83cd877599e", func := "tandem/tandemlaw09.UartStill", spec := "uartStill", apart := false }
def UartStillSaid : Prop := uartStillRow.holds Try.pinned (OpenSpec.ofChange uartStillSpec)

/-- ITS FALSE NEIGHBOUR: 'it returns false'. Refute it at one input. -/
def uartStillWrong : ChangeSpec := { name := "uartStill", fn := fun _ => fun
  | [d1, d2, d3, d4] => { results := [.lit (.bool false)], args := [d1, d2, d3, d4] }
  | _ => none }
def UartStillWrongFalsely : Prop := uartStillRow.holds Try.pinned (OpenSpec.ofChange uartStillWrong)

/- THE SECOND FORM. 'bulk': how many values and letters a reading holds, each counted each time it is reached (what is shared counts as often as it is met; a slice's spare places count too). A statement '..UptoSaid' is the law's where the arguments, and the package variables that the reading takes, are together of bulk at most 1048576: NARROWER than '..Said'. Prove '..Said' where nothing that the law and all that it calls make is longer than what came in: it says more and counts as full. Else prove '..UptoSaid'. A law counts once. -/
mutual
def uptoBulk {H : Type} : DataW H → Nat
  | .lit (.string bytes) => bytes.length + 1
  | .lit _ => 1
  | .nil => 1
  | .ptr d => uptoBulk d + 1
  | .slice elems spare => uptoBulkAll elems + uptoBulkAll spare + 1
  | .agg parts => uptoBulkAll parts + 1
  | .iface _ d => uptoBulk d + 1
  | .map entries => uptoBulkEntries entries + 1
  | .held _ => 1
def uptoBulkAll {H : Type} : List (DataW H) → Nat
  | [] => 0
  | d :: r => uptoBulk d + uptoBulkAll r
def uptoBulkEntries {H : Type} : List (Lit × DataW H) → Nat
  | [] => 0
  | x :: r => uptoBulkEntry x + uptoBulkEntries r
def uptoBulkEntry {H : Type} : Lit × DataW H → Nat
  | (.string bytes, d) => bytes.length + uptoBulk d + 1
  | (_, d) => uptoBulk d + 1
 end
def uptoSmall : (H : Type) → List (DataW H) → Bool := fun _ ds => decide (uptoBulkAll ds ≤ 1048576)
def OpenSpec.upto (s : _root_.Go.ChangeSpec) : _root_.Go.OpenSpec := { _root_.Go.OpenSpec.ofChange s with cond := some uptoSmall }

/-- 'tandemlaw09.UartDoes', WHERE WHAT IT READS IS OF BULK AT MOST 1048576: true; the input reads as it did. -/
def uartDoesUptoRow : OpenClaim := { program := "ytaholijnfekkgaa", sum := "85e405025eed194d68a0618fc1300b22d01fbfa961100b38815be83cd877599e", func := "tandem/tandemlaw09.UartDoes", spec := "uartDoes", apart := false, narrowed := true }
def UartDoesUptoSaid : Prop := uartDoesUptoRow.holds Try.pinned (OpenSpec.upto uartDoesSpec)

/-- 'tandemlaw09.UartOrders', WHERE WHAT IT READS IS OF BULK AT MOST 1048576: true; the input reads as it did. -/
def uartOrdersUptoRow : OpenClaim := { program := "ytaholijnfekkgaa", sum := "85e405025eed194d68a0618fc1300b22d01fbfa961100b38815be83cd877599e", func := "tandem/tandemlaw09.UartOrders", spec := "uartOrders", apart := false, narrowed := true }
def UartOrdersUptoSaid : Prop := uartOrdersUptoRow.holds Try.pinned (OpenSpec.upto uartOrdersSpec)

/-- 'tandemlaw09.UartRoom', WHERE WHAT IT READS IS OF BULK AT MOST 1048576: true; the input reads as it did. -/
def uartRoomUptoRow : OpenClaim := { program := "ytaholijnfekkgaa", sum := "85e405025eed194d68a0618fc1300b22d01fbfa961100b38815be83cd877599e", func := "tandem/tandemlaw09.UartRoom", spec := "uartRoom", apart := false, narrowed := true }
def UartRoomUptoSaid : Prop := uartRoomUptoRow.holds Try.pinned (OpenSpec.upto uartRoomSpec)

/-- 'tandemlaw09.UartStill', WHERE WHAT IT READS IS OF BULK AT MOST 1048576: true; the input reads as it did. -/
def uartStillUptoRow : OpenClaim := { program := "ytaholijnfekkgaa", sum := "85e405025eed194d68a0618fc1300b22d01fbfa961100b38815be83cd877599e", func := "tandem/tandemlaw09.UartStill", spec := "uartStill", apart := false, narrowed := true }
def UartStillUptoSaid : Prop := uartStillUptoRow.holds Try.pinned (OpenSpec.upto uartStillSpec)

end Rows
end Go.Proofs.Ytaholijnfekkgaa
