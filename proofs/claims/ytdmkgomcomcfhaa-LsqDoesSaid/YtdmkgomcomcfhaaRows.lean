/-
  No cell of these rows narrows 'for every input' (looked for: loops, veiled, ifaces, maps, wideKeys, modest, calm, conditions, laid).
  DERIVED. THE GIVEN ROWS OF THIS SEAT. 5 by the template 'for every input the law returns true; each argument reads behind the call as it read before'; 0 by the template 'total and deterministic' (their statements: YtdmkgomcomcfhaaTotals.lean).
  GIVEN WITH THE SEED: the statements are not yours to turn. If you find one false, say at which input.
  Laid BY PROGRAM, IN A SANDBOX (cutbox-rows.mjs): the forced cells as the released guide's own fill.sh prints them over the translation 60cf94382cc54082… (all of the seat's roots in one cut). By AI agents, Wed Nov 11 2026. No macro, syntax, notation, axiom, sorry.
-/
import Derived.Test.YtdmkgomcomcfhaaChecked
import GoSem.Claim
import GoSem.ClaimJoined
import GoSem.ClaimMapViews
import Derived.JoinedTies
import Derived.KernelRfl
namespace Go.Proofs.Ytdmkgomcomcfhaa
/- THE CELL 'sum', in the pinned program and in every row, IS THE sha256 OF THE DUMP (.gsa) THAT YtdmkgomcomcfhaaProg.lean LOADS. Nothing in Lean hashes anything: it is a label: what it is worth is what the hold of that sum in a sandbox is worth. -/
noncomputable def Try.pinned : Pinned := { name := "ytdmkgomcomcfhaa", sum := "60cf94382cc5408269b7f00c57e54c6c666229f87f88dd664a7a28342a71717f", checked := Try.checked }
namespace Rows
def none {H : Type} : Left H := { results := [], args := [] }

/-- 'tandemlaw23.LsqDoes': WHATEVER THE INPUT: true; the input reads as it did. -/
def lsqDoesSpec : ChangeSpec := { name := "lsqDoes", fn := fun _ => fun
  | [d] => { results := [.lit (.bool true)], args := [d] }
  | _ => none }
def lsqDoesRow : OpenClaim := { program := "ytdmkgomcomcfhaa", sum := "60cf94382cc5408269b7f00c57e54c6c666229f87f88dd664a7a28342a71717f", func := "tandem/tandemlaw23.LsqDoes", spec := "lsqDoes", unfollowed := true, recurses := true, apart := false }
def LsqDoesSaid : Prop := lsqDoesRow.holds Try.pinned (OpenSpec.ofChange lsqDoesSpec)

/-- ITS FALSE NEIGHBOUR: 'it returns false'. Refute it at one input. -/
def lsqDoesWrong : ChangeSpec := { name := "lsqDoes", fn := fun _ => fun
  | [d] => { results := [.lit (.bool false)], args := [d] }
  | _ => none }
def LsqDoesWrongFalsely : Prop := lsqDoesRow.holds Try.pinned (OpenSpec.ofChange lsqDoesWrong)

/-- 'tandemlaw23.LsqOrder': WHATEVER THE INPUT: true; the input reads as it did. -/
def lsqOrderSpec : ChangeSpec := { name := "lsqOrder", fn := fun _ => fun
  | [d1, d2] => { results := [.lit (.bool true)], args := [d1, d2] }
  | _ => none }
def lsqOrderRow : OpenClaim := { program := "ytdmkgomcomcfhaa", sum := "60cf94382cc5408269b7f00c57e54c6c666229f87f88dd664a7a28342a71717f", func := "tandem/tandemlaw23.LsqOrder", spec := "lsqOrder", unfollowed := true, recurses := true, apart := false }
def LsqOrderSaid : Prop := lsqOrderRow.holds Try.pinned (OpenSpec.ofChange lsqOrderSpec)

/-- ITS FALSE NEIGHBOUR: 'it returns false'. Refute it at one input. -/
def lsqOrderWrong : ChangeSpec := { name := "lsqOrder", fn := fun _ => fun
  | [d1, d2] => { results := [.lit (.bool false)], args := [d1, d2] }
  | _ => none }
def LsqOrderWrongFalsely : Prop := lsqOrderRow.holds Try.pinned (OpenSpec.ofChange lsqOrderWrong)

/-- 'tandemlaw23.LsqFirst': WHATEVER THE INPUT: true; the input reads as it did. -/
def lsqFirstSpec : ChangeSpec := { name := "lsqFirst", fn := fun _ => fun
  | [d] => { results := [.lit (.bool true)], args := [d] }
  | _ => none }
def lsqFirstRow : OpenClaim := { program := "ytdmkgomcomcfhaa", sum := "60cf94382cc5408269b7f00c57e54c6c666229f87f88dd664a7a28342a71717f", func := "tandem/tandemlaw23.LsqFirst", spec := "lsqFirst", unfollowed := true, recurses := true, apart := false }
def LsqFirstSaid : Prop := lsqFirstRow.holds Try.pinned (OpenSpec.ofChange lsqFirstSpec)

/-- ITS FALSE NEIGHBOUR: 'it returns false'. Refute it at one input. -/
def lsqFirstWrong : ChangeSpec := { name := "lsqFirst", fn := fun _ => fun
  | [d] => { results := [.lit (.bool false)], args := [d] }
  | _ => none }
def LsqFirstWrongFalsely : Prop := lsqFirstRow.holds Try.pinned (OpenSpec.ofChange lsqFirstWrong)

/-- 'tandemlaw23.LsqAlone': WHATEVER THE INPUT: true; the input reads as it did. -/
def lsqAloneSpec : ChangeSpec := { name := "lsqAlone", fn := fun _ => fun
  | [d1, d2, d3] => { results := [.lit (.bool true)], args := [d1, d2, d3] }
  | _ => none }
def lsqAloneRow : OpenClaim := { program := "ytdmkgomcomcfhaa", sum := "60cf94382cc5408269b7f00c57e54c6c666229f87f88dd664a7a28342a71717f", func := "tandem/tandemlaw23.LsqAlone", spec := "lsqAlone", unfollowed := true, recurses := true, apart := false }
def LsqAloneSaid : Prop := lsqAloneRow.holds Try.pinned (OpenSpec.ofChange lsqAloneSpec)

/-- ITS FALSE NEIGHBOUR: 'it returns false'. Refute it at one input. -/
def lsqAloneWrong : ChangeSpec := { name := "lsqAlone", fn := fun _ => fun
  | [d1, d2, d3] => { results := [.lit (.bool false)], args := [d1, d2, d3] }
  | _ => none }
def LsqAloneWrongFalsely : Prop := lsqAloneRow.holds Try.pinned (OpenSpec.ofChange lsqAloneWrong)

/-- 'tandemlaw23.LsqBytes': WHATEVER THE INPUT: true; the input reads as it did. -/
def lsqBytesSpec : ChangeSpec := { name := "lsqBytes", fn := fun _ => fun
  | [d1, d2] => { results := [.lit (.bool true)], args := [d1, d2] }
  | _ => none }
def lsqBytesRow : OpenClaim := { program := "ytdmkgomcomcfhaa", sum := "60cf94382cc5408269b7f00c57e54c6c666229f87f88dd664a7a28342a71717f", func := "tandem/tandemlaw23.LsqBytes", spec := "lsqBytes", unfollowed := true, recurses := true, apart := false }
def LsqBytesSaid : Prop := lsqBytesRow.holds Try.pinned (OpenSpec.ofChange lsqBytesSpec)

/-- ITS FALSE NEIGHBOUR: 'it returns false'. Refute it at one input. -/
def lsqBytesWrong : ChangeSpec := { name := "lsqBytes", fn := fun _ => fun
  | [d1, d2] => { results := [.lit (.bool false)], args := [d1, d2] }
  | _ => none }
def LsqBytesWrongFalsely : Prop := lsqBytesRow.holds Try.pinned (OpenSpec.ofChange lsqBytesWrong)

/- THE SECOND FORM. 'bulk': how many values and letters a reading holds, each counted each time it is reached (what is shared counts as often as it is met; a slice's spare places count too). A statement '..UptoSaid' is the law's where the arguments, and the package variables that the reading takes, are together of bulk at most 1048576: NARROWER than '..Said'. Prove '..Said' where nothing that the law and all that it calls make is longer than what came in: it says more and counts as full. Else prove '..UptoSaid'. A law counts once. -/
mutual
def uptoBulk {H : Type} : DataW H → Nat
  | .lit (.string bytes) => bytes.length + 1
  | .lit _ => 1
  | .nil => 1
  | .ptr d => uptoBulk d + 1
  | .slice elems spare => uptoBulkAll elems + uptoBulkAll spare + 1
  | .agg parts => uptoBulkAll parts + 1
  | .iface _ d => uptoBulk d + 1
  | .map entries => uptoBulkEntries entries + 1
  | .held _ => 1
def uptoBulkAll {H : Type} : List (DataW H) → Nat
  | [] => 0
  | d :: r => uptoBulk d + uptoBulkAll r
def uptoBulkEntries {H : Type} : List (Lit × DataW H) → Nat
  | [] => 0
  | x :: r => uptoBulkEntry x + uptoBulkEntries r
def uptoBulkEntry {H : Type} : Lit × DataW H → Nat
  | (.string bytes, d) => bytes.length + uptoBulk d + 1
  | (_, d) => uptoBulk d + 1
 end
def uptoSmall : (H : Type) → List (DataW H) → Bool := fun _ ds => decide (uptoBulkAll ds ≤ 1048576)
def OpenSpec.upto (s : _root_.Go.ChangeSpec) : _root_.Go.OpenSpec := { _root_.Go.OpenSpec.ofChange s with cond := some uptoSmall }

/-- 'tandemlaw23.LsqDoes', WHERE WHAT IT READS IS OF BULK AT MOST 1048576: true; the input reads as it did. -/
def lsqDoesUptoRow : OpenClaim := { program := "ytdmkgomcomcfhaa", sum := "60cf94382cc5408269b7f00c57e54c6c666229f87f88dd664a7a28342a71717f", func := "tandem/tandemlaw23.LsqDoes", spec := "lsqDoes", unfollowed := true, recurses := true, apart := false, narrowed := true }
def LsqDoesUptoSaid : Prop := lsqDoesUptoRow.holds Try.pinned (OpenSpec.upto lsqDoesSpec)

/-- 'tandemlaw23.LsqOrder', WHERE WHAT IT READS IS OF BULK AT MOST 1048576: true; the input reads as it did. -/
def lsqOrderUptoRow : OpenClaim := { program := "ytdmkgomcomcfhaa", sum := "60cf94382cc5408269b7f00c57e54c6c666229f87f88dd664a7a28342a71717f", func := "tandem/tandemlaw23.LsqOrder", spec := "lsqOrder", unfollowed := true, recurses := true, apart := false, narrowed := true }
def LsqOrderUptoSaid : Prop := lsqOrderUptoRow.holds Try.pinned (OpenSpec.upto lsqOrderSpec)

/-- 'tandemlaw23.LsqFirst', WHERE WHAT IT READS IS OF BULK AT MOST 1048576: true; the input reads as it did. -/
def lsqFirstUptoRow : OpenClaim := { program := "ytdmkgomcomcfhaa", sum := "60cf94382cc5408269b7f00c57e54c6c666229f87f88dd664a7a28342a71717f", func := "tandem/tandemlaw23.LsqFirst", spec := "lsqFirst", unfollowed := true, recurses := true, apart := false, narrowed := true }
def LsqFirstUptoSaid : Prop := lsqFirstUptoRow.holds Try.pinned (OpenSpec.upto lsqFirstSpec)

/-- 'tandemlaw23.LsqAlone', WHERE WHAT IT READS IS OF BULK AT MOST 1048576: true; the input reads as it did. -/
def lsqAloneUptoRow : OpenClaim := { program := "ytdmkgomcomcfhaa", sum := "60cf94382cc5408269b7f00c57e54c6c666229f87f88dd664a7a28342a71717f", func := "tandem/tandemlaw23.LsqAlone", spec := "lsqAlone", unfollowed := true, recurses := true, apart := false, narrowed := true }
def LsqAloneUptoSaid : Prop := lsqAloneUptoRow.holds Try.pinned (OpenSpec.upto lsqAloneSpec)

/-- 'tandemlaw23.LsqBytes', WHERE WHAT IT READS IS OF BULK AT MOST 1048576: true; the input reads as it did. -/
def lsqBytesUptoRow : OpenClaim := { program := "ytdmkgomcomcfhaa", sum := "60cf94382cc5408269b7f00c57e54c6c666229f87f88dd664a7a28342a71717f", func := "tandem/tandemlaw23.LsqBytes", spec := "lsqBytes", unfollowed := true, recurses := true, apart := false, narrowed := true }
def LsqBytesUptoSaid : Prop := lsqBytesUptoRow.holds Try.pinned (OpenSpec.upto lsqBytesSpec)

end Rows
end Go.Proofs.Ytdmkgomcomcfhaa
