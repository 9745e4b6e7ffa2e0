/-
  No cell of these rows narrows 'for every input' (looked for: loops, veiled, ifaces, maps, wideKeys, modest, calm, conditions, laid).
  DERIVED. THE GIVEN ROWS OF THIS SEAT. 5 by the template 'for every input the law returns true; each argument reads behind the call as it read before'; 0 by the template 'total and deterministic' (their statements: YtiglekmfighgnaaTotals.lean).
  GIVEN WITH THE SEED: the statements are not yours to turn. If you find one false, say at which input.
  Laid BY PROGRAM, IN A SANDBOX (cutbox-rows.mjs): the forced cells as the released guide's own fill.sh prints them over the translation f6f5dfdbe655e887… (all of the seat's roots in one cut). By AI agents, Wed Nov 11 2026. No macro, syntax, notation, axiom, sorry.
-/
import Derived.Test.YtiglekmfighgnaaChecked
import GoSem.Claim
import GoSem.ClaimJoined
import GoSem.ClaimMapViews
import Derived.JoinedTies
import Derived.KernelRfl
namespace Go.Proofs.Ytiglekmfighgnaa
/- THE CELL 'sum', in the pinned program and in every row, IS THE sha256 OF THE DUMP (.gsa) THAT YtiglekmfighgnaaProg.lean LOADS. Nothing in Lean hashes anything: it is a label: what it is worth is what the hold of that sum in a sandbox is worth. -/
noncomputable def Try.pinned : Pinned := { name := "ytiglekmfighgnaa", sum := "f6f5dfdbe655e88711c394883c308008ba82dc0a512085ff8ce447d37b3ff316", checked := Try.checked }
namespace Rows
def none {H : Type} : Left H := { results := [], args := [] }

/-- 'tandemlaw07.ClintDoes': WHATEVER THE INPUT: true; the input reads as it did. -/
def clintDoesSpec : ChangeSpec := { name := "clintDoes", fn := fun _ => fun
  | [d] => { results := [.lit (.bool true)], args := [d] }
  | _ => none }
def clintDoesRow : OpenClaim := { program := "ytiglekmfighgnaa", sum := "f6f5dfdbe655e88711c394883c308008ba82dc0a512085ff8ce447d37b3ff316", func := "tandem/tandemlaw07.ClintDoes", spec := "clintDoes", plainKeys := false, apart := false }
def ClintDoesSaid : Prop := clintDoesRow.holds Try.pinned (OpenSpec.ofChange clintDoesSpec)

/-- ITS FALSE NEIGHBOUR: 'it returns false'. Refute it at one input. -/
def clintDoesWrong : ChangeSpec := { name := "clintDoes", fn := fun _ => fun
  | [d] => { results := [.lit (.bool false)], args := [d] }
  | _ => none }
def ClintDoesWrongFalsely : Prop := clintDoesRow.holds Try.pinned (OpenSpec.ofChange clintDoesWrong)

/-- 'tandemlaw07.ClintRings': WHATEVER THE INPUT: true; the input reads as it did. -/
def clintRingsSpec : ChangeSpec := { name := "clintRings", fn := fun _ => fun
  | [d1, d2, d3] => { results := [.lit (.bool true)], args := [d1, d2, d3] }
  | _ => none }
def clintRingsRow : OpenClaim := { program := "ytiglekmfighgnaa", sum := "f6f5dfdbe655e88711c394883c308008ba82dc0a512085ff8ce447d37b3ff316", func := "tandem/tandemlaw07.ClintRings", spec := "clintRings", plainKeys := false, apart := false }
def ClintRingsSaid : Prop := clintRingsRow.holds Try.pinned (OpenSpec.ofChange clintRingsSpec)

/-- ITS FALSE NEIGHBOUR: 'it returns false'. Refute it at one input. -/
def clintRingsWrong : ChangeSpec := { name := "clintRings", fn := fun _ => fun
  | [d1, d2, d3] => { results := [.lit (.bool false)], args := [d1, d2, d3] }
  | _ => none }
def ClintRingsWrongFalsely : Prop := clintRingsRow.holds Try.pinned (OpenSpec.ofChange clintRingsWrong)

/-- 'tandemlaw07.ClintHalves': WHATEVER THE INPUT: true; the input reads as it did. -/
def clintHalvesSpec : ChangeSpec := { name := "clintHalves", fn := fun _ => fun
  | [d1, d2, d3] => { results := [.lit (.bool true)], args := [d1, d2, d3] }
  | _ => none }
def clintHalvesRow : OpenClaim := { program := "ytiglekmfighgnaa", sum := "f6f5dfdbe655e88711c394883c308008ba82dc0a512085ff8ce447d37b3ff316", func := "tandem/tandemlaw07.ClintHalves", spec := "clintHalves", plainKeys := false, apart := false }
def ClintHalvesSaid : Prop := clintHalvesRow.holds Try.pinned (OpenSpec.ofChange clintHalvesSpec)

/-- ITS FALSE NEIGHBOUR: 'it returns false'. Refute it at one input. -/
def clintHalvesWrong : ChangeSpec := { name := "clintHalves", fn := fun _ => fun
  | [d1, d2, d3] => { results := [.lit (.bool false)], args := [d1, d2, d3] }
  | _ => none }
def ClintHalvesWrongFalsely : Prop := clintHalvesRow.holds Try.pinned (OpenSpec.ofChange clintHalvesWrong)

/-- 'tandemlaw07.ClintPlaces': WHATEVER THE INPUT: true; the input reads as it did. -/
def clintPlacesSpec : ChangeSpec := { name := "clintPlaces", fn := fun _ => fun
  | [d1, d2, d3, d4, d5] => { results := [.lit (.bool true)], args := [d1, d2, d3, d4, d5] }
  | _ => none }
def clintPlacesRow : OpenClaim := { program := "ytiglekmfighgnaa", sum := "f6f5dfdbe655e88711c394883c308008ba82dc0a512085ff8ce447d37b3ff316", func := "tandem/tandemlaw07.ClintPlaces", spec := "clintPlaces", plainKeys := false, apart := false }
def ClintPlacesSaid : Prop := clintPlacesRow.holds Try.pinned (OpenSpec.ofChange clintPlacesSpec)

/-- ITS FALSE NEIGHBOUR: 'it returns false'. Refute it at one input. -/
def clintPlacesWrong : ChangeSpec := { name := "clintPlaces", fn := fun _ => fun
  | [d1, d2, d3, d4, d5] => { results := [.lit (.bool false)], args := [d1, d2, d3, d4, d5] }
  | _ => none }
def ClintPlacesWrongFalsely : Prop := clintPlacesRow.holds Try.pinned (OpenSpec.ofChange clintPlacesWrong)

/-- 'tandemlaw07.ClintCopies': WHATEVER THE INPUT: true; the input reads as it did. -/
def clintCopiesSpec : ChangeSpec := { name := "clintCopies", fn := fun _ => fun
  | [d1, d2, d3, d4] => { results := [.lit (.bool true)], args := [d1, d2, d3, d4] }
  | _ => none }
def clintCopiesRow : OpenClaim := { program := "ytiglekmfighgnaa", sum := "f6f5dfdbe655e88711c394883c308008ba82dc0a512085ff8ce447d37b3ff316", func := "tandem/tandemlaw07.ClintCopies", spec := "clintCopies", plainKeys := false, apart := false }
def ClintCopiesSaid : Prop := clintCopiesRow.holds Try.pinned (OpenSpec.ofChange clintCopiesSpec)

/-- ITS FALSE NEIGHBOUR: 'it returns false'. Refute it at one input. -/
def clintCopiesWrong : ChangeSpec := { name := "clintCopies", fn := fun _ => fun
  | [d1, d2, d3, d4] => { results := [.lit (.bool false)], args := [d1, d2, d3, d4] }
  | _ => none }
def ClintCopiesWrongFalsely : Prop := clintCopiesRow.holds Try.pinned (OpenSpec.ofChange clintCopiesWrong)

/- THE SECOND FORM. 'bulk': how many values and letters a reading holds, each counted each time it is reached (what is shared counts as often as it is met; a slice's spare places count too). A statement '..UptoSaid' is the law's where the arguments, and the package variables that the reading takes, are together of bulk at most 1048576: NARROWER than '..Said'. Prove '..Said' where nothing that the law and all that it calls make is longer than what came in: it says more and counts as full. Else prove '..UptoSaid'. A law counts once. -/
mutual
def uptoBulk {H : Type} : DataW H → Nat
  | .lit (.string bytes) => bytes.length + 1
  | .lit _ => 1
  | .nil => 1
  | .ptr d => uptoBulk d + 1
  | .slice elems spare => uptoBulkAll elems + uptoBulkAll spare + 1
  | .agg parts => uptoBulkAll parts + 1
  | .iface _ d => uptoBulk d + 1
  | .map entries => uptoBulkEntries entries + 1
  | .held _ => 1
def uptoBulkAll {H : Type} : List (DataW H) → Nat
  | [] => 0
  | d :: r => uptoBulk d + uptoBulkAll r
def uptoBulkEntries {H : Type} : List (Lit × DataW H) → Nat
  | [] => 0
  | x :: r => uptoBulkEntry x + uptoBulkEntries r
def uptoBulkEntry {H : Type} : Lit × DataW H → Nat
  | (.string bytes, d) => bytes.length + uptoBulk d + 1
  | (_, d) => uptoBulk d + 1
 end
def uptoSmall : (H : Type) → List (DataW H) → Bool := fun _ ds => decide (uptoBulkAll ds ≤ 1048576)
def OpenSpec.upto (s : _root_.Go.ChangeSpec) : _root_.Go.OpenSpec := { _root_.Go.OpenSpec.ofChange s with cond := some uptoSmall }

/-- 'tandemlaw07.ClintDoes', WHERE WHAT IT READS IS OF BULK AT MOST 1048576: true; the input reads as it did. -/
def clintDoesUptoRow : OpenClaim := { program := "ytiglekmfighgnaa", sum := "f6f5dfdbe655e88711c394883c308008ba82dc0a512085ff8ce447d37b3ff316", func := "tandem/tandemlaw07.ClintDoes", spec := "clintDoes", plainKeys := false, apart := false, narrowed := true }
def ClintDoesUptoSaid : Prop := clintDoesUptoRow.holds Try.pinned (OpenSpec.upto clintDoesSpec)

/-- 'tandemlaw07.ClintRings', WHERE WHAT IT READS IS OF BULK AT MOST 1048576: true; the input reads as it did. -/
def clintRingsUptoRow : OpenClaim := { program := "ytiglekmfighgnaa", sum := "f6f5dfdbe655e88711c394883c308008ba82dc0a512085ff8ce447d37b3ff316", func := "tandem/tandemlaw07.ClintRings", spec := "clintRings", plainKeys := false, apart := false, narrowed := true }
def ClintRingsUptoSaid : Prop := clintRingsUptoRow.holds Try.pinned (OpenSpec.upto clintRingsSpec)

/-- 'tandemlaw07.ClintHalves', WHERE WHAT IT READS IS OF BULK AT MOST 1048576: true; the input reads as it did. -/
def clintHalvesUptoRow : OpenClaim := { program := "ytiglekmfighgnaa", sum := "f6f5dfdbe655e88711c394883c308008ba82dc0a512085ff8ce447d37b3ff316", func := "tandem/tandemlaw07.ClintHalves", spec := "clintHalves", plainKeys := false, apart := false, narrowed := true }
def ClintHalvesUptoSaid : Prop := clintHalvesUptoRow.holds Try.pinned (OpenSpec.upto clintHalvesSpec)

/-- 'tandemlaw07.ClintPlaces', WHERE WHAT IT READS IS OF BULK AT MOST 1048576: true; the input reads as it did. -/
def clintPlacesUptoRow : OpenClaim := { program := "ytiglekmfighgnaa", sum := "f6f5dfdbe655e88711c394883c308008ba82dc0a512085ff8ce447d37b3ff316", func := "tandem/tandemlaw07.ClintPlaces", spec := "clintPlaces", plainKeys := false, apart := false, narrowed := true }
def ClintPlacesUptoSaid : Prop := clintPlacesUptoRow.holds Try.pinned (OpenSpec.upto clintPlacesSpec)

/-- 'tandemlaw07.ClintCopies', WHERE WHAT IT READS IS OF BULK AT MOST 1048576: true; the input reads as it did. -/
def clintCopiesUptoRow : OpenClaim := { program := "ytiglekmfighgnaa", sum := "f6f5dfdbe655e88711c394883c308008ba82dc0a512085ff8ce447d37b3ff316", func := "tandem/tandemlaw07.ClintCopies", spec := "clintCopies", plainKeys := false, apart := false, narrowed := true }
def ClintCopiesUptoSaid : Prop := clintCopiesUptoRow.holds Try.pinned (OpenSpec.upto clintCopiesSpec)

end Rows
end Go.Proofs.Ytiglekmfighgnaa
