/-
  No cell of these rows narrows 'for every input' (looked for: loops, veiled, ifaces, maps, wideKeys, modest, calm, conditions, laid).
  DERIVED. THE GIVEN ROWS OF THIS SEAT. 5 by the template 'for every input the law returns true; each argument reads behind the call as it read before'; 0 by the template 'total and deterministic' (their statements: YtlkkmpfhhfaioaaTotals.lean).
  GIVEN WITH THE SEED: the statements are not yours to turn. If you find one false, say at which input.
  Laid BY PROGRAM, IN A SANDBOX (cutbox-rows.mjs): the forced cells as the released guide's own fill.sh prints them over the translation e0f9150571414b93… (all of the seat's roots in one cut). By AI agents, Wed Nov 11 2026. No macro, syntax, notation, axiom, sorry.
-/
import Derived.Test.YtlkkmpfhhfaioaaChecked
import GoSem.Claim
import GoSem.ClaimJoined
import GoSem.ClaimMapViews
import Derived.JoinedTies
import Derived.KernelRfl
namespace Go.Proofs.Ytlkkmpfhhfaioaa
/- THE CELL 'sum', in the pinned program and in every row, IS THE sha256 OF THE DUMP (.gsa) THAT YtlkkmpfhhfaioaaProg.lean LOADS. Nothing in Lean hashes anything: it is a label: what it is worth is what the hold of that sum in a sandbox is worth. -/
noncomputable def Try.pinned : Pinned := { name := "ytlkkmpfhhfaioaa", sum := "e0f9150571414b93512d94675c7d12ffc7eed2be84617ec459b1cefeb76c0d7e", checked := Try.checked }
namespace Rows
def none {H : Type} : Left H := { results := [], args := [] }

/-- 'tandemlaw15.TlbDoes': WHATEVER THE INPUT: true; the input reads as it did. -/
def tlbDoesSpec : ChangeSpec := { name := "tlbDoes", fn := fun _ => fun
  | [d1, d2] => { results := [.lit (.bool true)], args := [d1, d2] }
  | _ => none }
def tlbDoesRow : OpenClaim := { program := "ytlkkmpfhhfaioaa", sum := "e0f9150571414b93512d94675c7d12ffc7eed2be84617ec459b1cefeb76c0d7e", func := "tandem/tandemlaw15.TlbDoes", spec := "tlbDoes", plainKeys := false, apart := false }
def TlbDoesSaid : Prop := tlbDoesRow.holds Try.pinned (OpenSpec.ofChange tlbDoesSpec)

/-- ITS FALSE NEIGHBOUR: 'it returns false'. Refute it at one input. -/
def tlbDoesWrong : ChangeSpec := { name := "tlbDoes", fn := fun _ => fun
  | [d1, d2] => { results := [.lit (.bool false)], args := [d1, d2] }
  | _ => none }
def TlbDoesWrongFalsely : Prop := tlbDoesRow.holds Try.pinned (OpenSpec.ofChange tlbDoesWrong)

/-- 'tandemlaw15.TlbKeeps': WHATEVER THE INPUT: true; the input reads as it did. -/
def tlbKeepsSpec : ChangeSpec := { name := "tlbKeeps", fn := fun _ => fun
  | [d1, d2] => { results := [.lit (.bool true)], args := [d1, d2] }
  | _ => none }
def tlbKeepsRow : OpenClaim := { program := "ytlkkmpfhhfaioaa", sum := "e0f9150571414b93512d94675c7d12ffc7eed2be84617ec459b1cefeb76c0d7e", func := "tandem/tandemlaw15.TlbKeeps", spec := "tlbKeeps", plainKeys := false, apart := false }
def TlbKeepsSaid : Prop := tlbKeepsRow.holds Try.pinned (OpenSpec.ofChange tlbKeepsSpec)

/-- ITS FALSE NEIGHBOUR: 'it returns false'. Refute it at one input. -/
def tlbKeepsWrong : ChangeSpec := { name := "tlbKeeps", fn := fun _ => fun
  | [d1, d2] => { results := [.lit (.bool false)], args := [d1, d2] }
  | _ => none }
def TlbKeepsWrongFalsely : Prop := tlbKeepsRow.holds Try.pinned (OpenSpec.ofChange tlbKeepsWrong)

/-- 'tandemlaw15.TlbSeeds': WHATEVER THE INPUT: true; the input reads as it did. -/
def tlbSeedsSpec : ChangeSpec := { name := "tlbSeeds", fn := fun _ => fun
  | [d1, d2, d3] => { results := [.lit (.bool true)], args := [d1, d2, d3] }
  | _ => none }
def tlbSeedsRow : OpenClaim := { program := "ytlkkmpfhhfaioaa", sum := "e0f9150571414b93512d94675c7d12ffc7eed2be84617ec459b1cefeb76c0d7e", func := "tandem/tandemlaw15.TlbSeeds", spec := "tlbSeeds", plainKeys := false, apart := false }
def TlbSeedsSaid : Prop := tlbSeedsRow.holds Try.pinned (OpenSpec.ofChange tlbSeedsSpec)

/-- ITS FALSE NEIGHBOUR: 'it returns false'. Refute it at one input. -/
def tlbSeedsWrong : ChangeSpec := { name := "tlbSeeds", fn := fun _ => fun
  | [d1, d2, d3] => { results := [.lit (.bool false)], args := [d1, d2, d3] }
  | _ => none }
def TlbSeedsWrongFalsely : Prop := tlbSeedsRow.holds Try.pinned (OpenSpec.ofChange tlbSeedsWrong)

/-- 'tandemlaw15.TlbPages': WHATEVER THE INPUT: true; the input reads as it did. -/
def tlbPagesSpec : ChangeSpec := { name := "tlbPages", fn := fun _ => fun
  | [d1, d2, d3, d4] => { results := [.lit (.bool true)], args := [d1, d2, d3, d4] }
  | _ => none }
def tlbPagesRow : OpenClaim := { program := "ytlkkmpfhhfaioaa", sum := "e0f9150571414b93512d94675c7d12ffc7eed2be84617ec459b1cefeb76c0d7e", func := "tandem/tandemlaw15.TlbPages", spec := "tlbPages", plainKeys := false, apart := false }
def TlbPagesSaid : Prop := tlbPagesRow.holds Try.pinned (OpenSpec.ofChange tlbPagesSpec)

/-- ITS FALSE NEIGHBOUR: 'it returns false'. Refute it at one input. -/
def tlbPagesWrong : ChangeSpec := { name := "tlbPages", fn := fun _ => fun
  | [d1, d2, d3, d4] => { results := [.lit (.bool false)], args := [d1, d2, d3, d4] }
  | _ => none }
def TlbPagesWrongFalsely : Prop := tlbPagesRow.holds Try.pinned (OpenSpec.ofChange tlbPagesWrong)

/-- 'tandemlaw15.TlbFences': WHATEVER THE INPUT: true; the input reads as it did. -/
def tlbFencesSpec : ChangeSpec := { name := "tlbFences", fn := fun _ => fun
  | [d1, d2, d3, d4, d5, d6] => { results := [.lit (.bool true)], args := [d1, d2, d3, d4, d5, d6] }
  | _ => none }
def tlbFencesRow : OpenClaim := { program := "ytlkkmpfhhfaioaa", sum := "e0f9150571414b93512d94675c7d12ffc7eed2be84617ec459b1cefeb76c0d7e", func := "tandem/tandemlaw15.TlbFences", spec := "tlbFences", plainKeys := false, apart := false }
def TlbFencesSaid : Prop := tlbFencesRow.holds Try.pinned (OpenSpec.ofChange tlbFencesSpec)

/-- ITS FALSE NEIGHBOUR: 'it returns false'. Refute it at one input. -/
def tlbFencesWrong : ChangeSpec := { name := "tlbFences", fn := fun _ => fun
  | [d1, d2, d3, d4, d5, d6] => { results := [.lit (.bool false)], args := [d1, d2, d3, d4, d5, d6] }
  | _ => none }
def TlbFencesWrongFalsely : Prop := tlbFencesRow.holds Try.pinned (OpenSpec.ofChange tlbFencesWrong)

/- THE SECOND FORM. 'bulk': how many values and letters a reading holds, each counted each time it is reached (what is shared counts as often as it is met; a slice's spare places count too). A statement '..UptoSaid' is the law's where the arguments, and the package variables that the reading takes, are together of bulk at most 1048576: NARROWER than '..Said'. Prove '..Said' where nothing that the law and all that it calls make is longer than what came in: it says more and counts as full. Else prove '..UptoSaid'. A law counts once. -/
mutual
def uptoBulk {H : Type} : DataW H → Nat
  | .lit (.string bytes) => bytes.length + 1
  | .lit _ => 1
  | .nil => 1
  | .ptr d => uptoBulk d + 1
  | .slice elems spare => uptoBulkAll elems + uptoBulkAll spare + 1
  | .agg parts => uptoBulkAll parts + 1
  | .iface _ d => uptoBulk d + 1
  | .map entries => uptoBulkEntries entries + 1
  | .held _ => 1
def uptoBulkAll {H : Type} : List (DataW H) → Nat
  | [] => 0
  | d :: r => uptoBulk d + uptoBulkAll r
def uptoBulkEntries {H : Type} : List (Lit × DataW H) → Nat
  | [] => 0
  | x :: r => uptoBulkEntry x + uptoBulkEntries r
def uptoBulkEntry {H : Type} : Lit × DataW H → Nat
  | (.string bytes, d) => bytes.length + uptoBulk d + 1
  | (_, d) => uptoBulk d + 1
 end
def uptoSmall : (H : Type) → List (DataW H) → Bool := fun _ ds => decide (uptoBulkAll ds ≤ 1048576)
def OpenSpec.upto (s : _root_.Go.ChangeSpec) : _root_.Go.OpenSpec := { _root_.Go.OpenSpec.ofChange s with cond := some uptoSmall }

/-- 'tandemlaw15.TlbDoes', WHERE WHAT IT READS IS OF BULK AT MOST 1048576: true; the input reads as it did. -/
def tlbDoesUptoRow : OpenClaim := { program := "ytlkkmpfhhfaioaa", sum := "e0f9150571414b93512d94675c7d12ffc7eed2be84617ec459b1cefeb76c0d7e", func := "tandem/tandemlaw15.TlbDoes", spec := "tlbDoes", plainKeys := false, apart := false, narrowed := true }
def TlbDoesUptoSaid : Prop := tlbDoesUptoRow.holds Try.pinned (OpenSpec.upto tlbDoesSpec)

/-- 'tandemlaw15.TlbKeeps', WHERE WHAT IT READS IS OF BULK AT MOST 1048576: true; the input reads as it did. -/
def tlbKeepsUptoRow : OpenClaim := { program := "ytlkkmpfhhfaioaa", sum := "e0f9150571414b93512d94675c7d12ffc7eed2be84617ec459b1cefeb76c0d7e", func := "tandem/tandemlaw15.TlbKeeps", spec := "tlbKeeps", plainKeys := false, apart := false, narrowed := true }
def TlbKeepsUptoSaid : Prop := tlbKeepsUptoRow.holds Try.pinned (OpenSpec.upto tlbKeepsSpec)

/-- 'tandemlaw15.TlbSeeds', WHERE WHAT IT READS IS OF BULK AT MOST 1048576: true; the input reads as it did. -/
def tlbSeedsUptoRow : OpenClaim := { program := "ytlkkmpfhhfaioaa", sum := "e0f9150571414b93512d94675c7d12ffc7eed2be84617ec459b1cefeb76c0d7e", func := "tandem/tandemlaw15.TlbSeeds", spec := "tlbSeeds", plainKeys := false, apart := false, narrowed := true }
def TlbSeedsUptoSaid : Prop := tlbSeedsUptoRow.holds Try.pinned (OpenSpec.upto tlbSeedsSpec)

/-- 'tandemlaw15.TlbPages', WHERE WHAT IT READS IS OF BULK AT MOST 1048576: true; the input reads as it did. -/
def tlbPagesUptoRow : OpenClaim := { program := "ytlkkmpfhhfaioaa", sum := "e0f9150571414b93512d94675c7d12ffc7eed2be84617ec459b1cefeb76c0d7e", func := "tandem/tandemlaw15.TlbPages", spec := "tlbPages", plainKeys := false, apart := false, narrowed := true }
def TlbPagesUptoSaid : Prop := tlbPagesUptoRow.holds Try.pinned (OpenSpec.upto tlbPagesSpec)

/-- 'tandemlaw15.TlbFences', WHERE WHAT IT READS IS OF BULK AT MOST 1048576: true; the input reads as it did. -/
def tlbFencesUptoRow : OpenClaim := { program := "ytlkkmpfhhfaioaa", sum := "e0f9150571414b93512d94675c7d12ffc7eed2be84617ec459b1cefeb76c0d7e", func := "tandem/tandemlaw15.TlbFences", spec := "tlbFences", plainKeys := false, apart := false, narrowed := true }
def TlbFencesUptoSaid : Prop := tlbFencesUptoRow.holds Try.pinned (OpenSpec.upto tlbFencesSpec)

end Rows
end Go.Proofs.Ytlkkmpfhhfaioaa
