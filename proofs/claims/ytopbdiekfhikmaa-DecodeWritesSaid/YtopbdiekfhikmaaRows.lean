/-
  No cell of these rows narrows 'for every input' (looked for: loops, veiled, ifaces, maps, wideKeys, modest, calm, conditions, laid).
  DERIVED. THE GIVEN ROWS OF THIS SEAT. 6 by the template 'for every input the law returns true; each argument reads behind the call as it read before'; 0 by the template 'total and deterministic' (their statements: YtopbdiekfhikmaaTotals.lean).
  GIVEN WITH THE SEED: the statements are not yours to turn. If you find one false, say at which input.
  Laid BY PROGRAM, IN A SANDBOX (cutbox-rows.mjs): the forced cells as the released guide's own fill.sh prints them over the translation fa5230d952f4fccc… (all of the seat's roots in one cut). By AI agents, Wed Nov 11 2026. No macro, syntax, notation, axiom, sorry.
-/
import Derived.Test.YtopbdiekfhikmaaChecked
import GoSem.Claim
import GoSem.ClaimJoined
import GoSem.ClaimMapViews
import Derived.JoinedTies
import Derived.KernelRfl
namespace Go.Proofs.Ytopbdiekfhikmaa
/- THE CELL 'sum', in the pinned program and in every row, IS THE sha256 OF THE DUMP (.gsa) THAT YtopbdiekfhikmaaProg.lean LOADS. Nothing in Lean hashes anything: it is a label: what it is worth is what the hold of that sum in a sandbox is worth. -/
noncomputable def Try.pinned : Pinned := { name := "ytopbdiekfhikmaa", sum := "fa5230d952f4fcccd3759b5a2cbf6b786cb3ec542486ad2cdacf97239cb90ab9", checked := Try.checked }
namespace Rows
def none {H : Type} : Left H := { results := [], args := [] }

/-- 'tandemlaw03.DecodeReads': WHATEVER THE INPUT: true; the input reads as it did. -/
def decodeReadsSpec : ChangeSpec := { name := "decodeReads", fn := fun _ => fun
  | [d] => { results := [.lit (.bool true)], args := [d] }
  | _ => none }
def decodeReadsRow : OpenClaim := { program := "ytopbdiekfhikmaa", sum := "fa5230d952f4fcccd3759b5a2cbf6b786cb3ec542486ad2cdacf97239cb90ab9", func := "tandem/tandemlaw03.DecodeReads", spec := "decodeReads", unfollowed := true, recurses := true, apart := false }
def DecodeReadsSaid : Prop := decodeReadsRow.holds Try.pinned (OpenSpec.ofChange decodeReadsSpec)

/-- ITS FALSE NEIGHBOUR: 'it returns false'. Refute it at one input. -/
def decodeReadsWrong : ChangeSpec := { name := "decodeReads", fn := fun _ => fun
  | [d] => { results := [.lit (.bool false)], args := [d] }
  | _ => none }
def DecodeReadsWrongFalsely : Prop := decodeReadsRow.holds Try.pinned (OpenSpec.ofChange decodeReadsWrong)

/-- 'tandemlaw03.DecodeWrites': WHATEVER THE INPUT: true; the input reads as it did. -/
def decodeWritesSpec : ChangeSpec := { name := "decodeWrites", fn := fun _ => fun
  | [d] => { results := [.lit (.bool true)], args := [d] }
  | _ => none }
def decodeWritesRow : OpenClaim := { program := "ytopbdiekfhikmaa", sum := "fa5230d952f4fcccd3759b5a2cbf6b786cb3ec542486ad2cdacf97239cb90ab9", func := "tandem/tandemlaw03.DecodeWrites", spec := "decodeWrites", unfollowed := true, recurses := true, apart := false }
def DecodeWritesSaid : Prop := decodeWritesRow.holds Try.pinned (OpenSpec.ofChange decodeWritesSpec)

/-- ITS FALSE NEIGHBOUR: 'it returns false'. Refute it at one input. -/
def decodeWritesWrong : ChangeSpec := { name := "decodeWrites", fn := fun _ => fun
  | [d] => { results := [.lit (.bool false)], args := [d] }
  | _ => none }
def DecodeWritesWrongFalsely : Prop := decodeWritesRow.holds Try.pinned (OpenSpec.ofChange decodeWritesWrong)

/-- 'tandemlaw03.DecodeBack': WHATEVER THE INPUT: true; the input reads as it did. -/
def decodeBackSpec : ChangeSpec := { name := "decodeBack", fn := fun _ => fun
  | [d1, d2] => { results := [.lit (.bool true)], args := [d1, d2] }
  | _ => none }
def decodeBackRow : OpenClaim := { program := "ytopbdiekfhikmaa", sum := "fa5230d952f4fcccd3759b5a2cbf6b786cb3ec542486ad2cdacf97239cb90ab9", func := "tandem/tandemlaw03.DecodeBack", spec := "decodeBack", unfollowed := true, recurses := true, apart := false }
def DecodeBackSaid : Prop := decodeBackRow.holds Try.pinned (OpenSpec.ofChange decodeBackSpec)

/-- ITS FALSE NEIGHBOUR: 'it returns false'. Refute it at one input. -/
def decodeBackWrong : ChangeSpec := { name := "decodeBack", fn := fun _ => fun
  | [d1, d2] => { results := [.lit (.bool false)], args := [d1, d2] }
  | _ => none }
def DecodeBackWrongFalsely : Prop := decodeBackRow.holds Try.pinned (OpenSpec.ofChange decodeBackWrong)

/-- 'tandemlaw03.DecodeFields': WHATEVER THE INPUT: true; the input reads as it did. -/
def decodeFieldsSpec : ChangeSpec := { name := "decodeFields", fn := fun _ => fun
  | [d] => { results := [.lit (.bool true)], args := [d] }
  | _ => none }
def decodeFieldsRow : OpenClaim := { program := "ytopbdiekfhikmaa", sum := "fa5230d952f4fcccd3759b5a2cbf6b786cb3ec542486ad2cdacf97239cb90ab9", func := "tandem/tandemlaw03.DecodeFields", spec := "decodeFields", unfollowed := true, recurses := true, apart := false }
def DecodeFieldsSaid : Prop := decodeFieldsRow.holds Try.pinned (OpenSpec.ofChange decodeFieldsSpec)

/-- ITS FALSE NEIGHBOUR: 'it returns false'. Refute it at one input. -/
def decodeFieldsWrong : ChangeSpec := { name := "decodeFields", fn := fun _ => fun
  | [d] => { results := [.lit (.bool false)], args := [d] }
  | _ => none }
def DecodeFieldsWrongFalsely : Prop := decodeFieldsRow.holds Try.pinned (OpenSpec.ofChange decodeFieldsWrong)

/-- 'tandemlaw03.DecodeTurns': WHATEVER THE INPUT: true; the input reads as it did. -/
def decodeTurnsSpec : ChangeSpec := { name := "decodeTurns", fn := fun _ => fun
  | [d1, d2] => { results := [.lit (.bool true)], args := [d1, d2] }
  | _ => none }
def decodeTurnsRow : OpenClaim := { program := "ytopbdiekfhikmaa", sum := "fa5230d952f4fcccd3759b5a2cbf6b786cb3ec542486ad2cdacf97239cb90ab9", func := "tandem/tandemlaw03.DecodeTurns", spec := "decodeTurns", unfollowed := true, recurses := true, apart := false }
def DecodeTurnsSaid : Prop := decodeTurnsRow.holds Try.pinned (OpenSpec.ofChange decodeTurnsSpec)

/-- ITS FALSE NEIGHBOUR: 'it returns false'. Refute it at one input. -/
def decodeTurnsWrong : ChangeSpec := { name := "decodeTurns", fn := fun _ => fun
  | [d1, d2] => { results := [.lit (.bool false)], args := [d1, d2] }
  | _ => none }
def DecodeTurnsWrongFalsely : Prop := decodeTurnsRow.holds Try.pinned (OpenSpec.ofChange decodeTurnsWrong)

/-- 'tandemlaw03.DecodeShifts': WHATEVER THE INPUT: true; the input reads as it did. -/
def decodeShiftsSpec : ChangeSpec := { name := "decodeShifts", fn := fun _ => fun
  | [d] => { results := [.lit (.bool true)], args := [d] }
  | _ => none }
def decodeShiftsRow : OpenClaim := { program := "ytopbdiekfhikmaa", sum := "fa5230d952f4fcccd3759b5a2cbf6b786cb3ec542486ad2cdacf97239cb90ab9", func := "tandem/tandemlaw03.DecodeShifts", spec := "decodeShifts", unfollowed := true, recurses := true, apart := false }
def DecodeShiftsSaid : Prop := decodeShiftsRow.holds Try.pinned (OpenSpec.ofChange decodeShiftsSpec)

/-- ITS FALSE NEIGHBOUR: 'it returns false'. Refute it at one input. -/
def decodeShiftsWrong : ChangeSpec := { name := "decodeShifts", fn := fun _ => fun
  | [d] => { results := [.lit (.bool false)], args := [d] }
  | _ => none }
def DecodeShiftsWrongFalsely : Prop := decodeShiftsRow.holds Try.pinned (OpenSpec.ofChange decodeShiftsWrong)

/- THE SECOND FORM. 'bulk': how many values and letters a reading holds, each counted each time it is reached (what is shared counts as often as it is met; a slice's spare places count too). A statement '..UptoSaid' is the law's where the arguments, and the package variables that the reading takes, are together of bulk at most 1048576: NARROWER than '..Said'. Prove '..Said' where nothing that the law and all that it calls make is longer than what came in: it says more and counts as full. Else prove '..UptoSaid'. A law counts once. -/
mutual
def uptoBulk {H : Type} : DataW H → Nat
  | .lit (.string bytes) => bytes.length + 1
  | .lit _ => 1
  | .nil => 1
  | .ptr d => uptoBulk d + 1
  | .slice elems spare => uptoBulkAll elems + uptoBulkAll spare + 1
  | .agg parts => uptoBulkAll parts + 1
  | .iface _ d => uptoBulk d + 1
  | .map entries => uptoBulkEntries entries + 1
  | .held _ => 1
def uptoBulkAll {H : Type} : List (DataW H) → Nat
  | [] => 0
  | d :: r => uptoBulk d + uptoBulkAll r
def uptoBulkEntries {H : Type} : List (Lit × DataW H) → Nat
  | [] => 0
  | x :: r => uptoBulkEntry x + uptoBulkEntries r
def uptoBulkEntry {H : Type} : Lit × DataW H → Nat
  | (.string bytes, d) => bytes.length + uptoBulk d + 1
  | (_, d) => uptoBulk d + 1
 end
def uptoSmall : (H : Type) → List (DataW H) → Bool := fun _ ds => decide (uptoBulkAll ds ≤ 1048576)
def OpenSpec.upto (s : _root_.Go.ChangeSpec) : _root_.Go.OpenSpec := { _root_.Go.OpenSpec.ofChange s with cond := some uptoSmall }

/-- 'tandemlaw03.DecodeReads', WHERE WHAT IT READS IS OF BULK AT MOST 1048576: true; the input reads as it did. -/
def decodeReadsUptoRow : OpenClaim := { program := "ytopbdiekfhikmaa", sum := "fa5230d952f4fcccd3759b5a2cbf6b786cb3ec542486ad2cdacf97239cb90ab9", func := "tandem/tandemlaw03.DecodeReads", spec := "decodeReads", unfollowed := true, recurses := true, apart := false, narrowed := true }
def DecodeReadsUptoSaid : Prop := decodeReadsUptoRow.holds Try.pinned (OpenSpec.upto decodeReadsSpec)

/-- 'tandemlaw03.DecodeWrites', WHERE WHAT IT READS IS OF BULK AT MOST 1048576: true; the input reads as it did. -/
def decodeWritesUptoRow : OpenClaim := { program := "ytopbdiekfhikmaa", sum := "fa5230d952f4fcccd3759b5a2cbf6b786cb3ec542486ad2cdacf97239cb90ab9", func := "tandem/tandemlaw03.DecodeWrites", spec := "decodeWrites", unfollowed := true, recurses := true, apart := false, narrowed := true }
def DecodeWritesUptoSaid : Prop := decodeWritesUptoRow.holds Try.pinned (OpenSpec.upto decodeWritesSpec)

/-- 'tandemlaw03.DecodeBack', WHERE WHAT IT READS IS OF BULK AT MOST 1048576: true; the input reads as it did. -/
def decodeBackUptoRow : OpenClaim := { program := "ytopbdiekfhikmaa", sum := "fa5230d952f4fcccd3759b5a2cbf6b786cb3ec542486ad2cdacf97239cb90ab9", func := "tandem/tandemlaw03.DecodeBack", spec := "decodeBack", unfollowed := true, recurses := true, apart := false, narrowed := true }
def DecodeBackUptoSaid : Prop := decodeBackUptoRow.holds Try.pinned (OpenSpec.upto decodeBackSpec)

/-- 'tandemlaw03.DecodeFields', WHERE WHAT IT READS IS OF BULK AT MOST 1048576: true; the input reads as it did. -/
def decodeFieldsUptoRow : OpenClaim := { program := "ytopbdiekfhikmaa", sum := "fa5230d952f4fcccd3759b5a2cbf6b786cb3ec542486ad2cdacf97239cb90ab9", func := "tandem/tandemlaw03.DecodeFields", spec := "decodeFields", unfollowed := true, recurses := true, apart := false, narrowed := true }
def DecodeFieldsUptoSaid : Prop := decodeFieldsUptoRow.holds Try.pinned (OpenSpec.upto decodeFieldsSpec)

/-- 'tandemlaw03.DecodeTurns', WHERE WHAT IT READS IS OF BULK AT MOST 1048576: true; the input reads as it did. -/
def decodeTurnsUptoRow : OpenClaim := { program := "ytopbdiekfhikmaa", sum := "fa5230d952f4fcccd3759b5a2cbf6b786cb3ec542486ad2cdacf97239cb90ab9", func := "tandem/tandemlaw03.DecodeTurns", spec := "decodeTurns", unfollowed := true, recurses := true, apart := false, narrowed := true }
def DecodeTurnsUptoSaid : Prop := decodeTurnsUptoRow.holds Try.pinned (OpenSpec.upto decodeTurnsSpec)

/-- 'tandemlaw03.DecodeShifts', WHERE WHAT IT READS IS OF BULK AT MOST 1048576: true; the input reads as it did. -/
def decodeShiftsUptoRow : OpenClaim := { program := "ytopbdiekfhikmaa", sum := "fa5230d952f4fcccd3759b5a2cbf6b786cb3ec542486ad2cdacf97239cb90ab9", func := "tandem/tandemlaw03.DecodeShifts", spec := "decodeShifts", unfollowed := true, recurses := true, apart := false, narrowed := true }
def DecodeShiftsUptoSaid : Prop := decodeShiftsUptoRow.holds Try.pinned (OpenSpec.upto decodeShiftsSpec)

end Rows
end Go.Proofs.Ytopbdiekfhikmaa
