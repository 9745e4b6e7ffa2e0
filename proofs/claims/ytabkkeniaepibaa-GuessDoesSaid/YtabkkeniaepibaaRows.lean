/-
  No cell of these rows narrows 'for every input' (looked for: loops, veiled, ifaces, maps, wideKeys, modest, calm, conditions, laid).
  DERIVED. THE GIVEN ROWS OF THIS SEAT. 5 by the template 'for every input the law returns true; each argument reads behind the call as it read before'; 0 by the template 'total and deterministic' (their statements: YtabkkeniaepibaaTotals.lean).
  GIVEN WITH THE SEED: the statements are not yours to turn. If you find one false, say at which input.
  Laid BY PROGRAM, IN A SANDBOX (cutbox-rows.mjs): the forced cells as the released guide's own fill.sh prints them over the translation 3814b3020af82a65… (all of the seat's roots in one cut). By AI agents, Wed Nov 11 2026. No macro, syntax, notation, axiom, sorry.
-/
import Derived.Test.YtabkkeniaepibaaChecked
import GoSem.Claim
import GoSem.ClaimJoined
import GoSem.ClaimMapViews
import Derived.JoinedTies
import Derived.KernelRfl
namespace Go.Proofs.Ytabkkeniaepibaa
/- THE CELL 'sum', in the pinned program and in every row, IS THE sha256 OF THE DUMP (.gsa) THAT YtabkkeniaepibaaProg.lean LOADS. Nothing in Lean hashes anything: it is a label: what it is worth is what the hold of that sum in a sandbox is worth. -/
noncomputable def Try.pinned : Pinned := { name := "ytabkkeniaepibaa", sum := "3814b3020af82a6583b29745a2416a7fe47a71d931eaab1e439913bbd2c3a114", checked := Try.checked }
namespace Rows
def none {H : Type} : Left H := { results := [], args := [] }

/-- 'tandemlaw18.GuessDoes': WHATEVER THE INPUT: true; the input reads as it did. -/
def guessDoesSpec : ChangeSpec := { name := "guessDoes", fn := fun _ => fun
  | [d1, d2] => { results := [.lit (.bool true)], args := [d1, d2] }
  | _ => none }
def guessDoesRow : OpenClaim := { program := "ytabkkeniaepibaa", sum := "3814b3020af82a6583b29745a2416a7fe47a71d931eaab1e439913bbd2c3a114", func := "tandem/tandemlaw18.GuessDoes", spec := "guessDoes", apart := false }
def GuessDoesSaid : Prop := guessDoesRow.holds Try.pinned (OpenSpec.ofChange guessDoesSpec)

/-- ITS FALSE NEIGHBOUR: 'it returns false'. Refute it at one input. -/
def guessDoesWrong : ChangeSpec := { name := "guessDoes", fn := fun _ => fun
  | [d1, d2] => { results := [.lit (.bool false)], args := [d1, d2] }
  | _ => none }
def GuessDoesWrongFalsely : Prop := guessDoesRow.holds Try.pinned (OpenSpec.ofChange guessDoesWrong)

/-- 'tandemlaw18.GuessSteady': WHATEVER THE INPUT: true; the input reads as it did. -/
def guessSteadySpec : ChangeSpec := { name := "guessSteady", fn := fun _ => fun
  | [d1, d2, d3, d4, d5, d6] => { results := [.lit (.bool true)], args := [d1, d2, d3, d4, d5, d6] }
  | _ => none }
def guessSteadyRow : OpenClaim := { program := "ytabkkeniaepibaa", sum := "3814b3020af82a6583b29745a2416a7fe47a71d931eaab1e439913bbd2c3a114", func := "tandem/tandemlaw18.GuessSteady", spec := "guessSteady", apart := false }
def GuessSteadySaid : Prop := guessSteadyRow.holds Try.pinned (OpenSpec.ofChange guessSteadySpec)

/-- ITS FALSE NEIGHBOUR: 'it returns false'. Refute it at one input. -/
def guessSteadyWrong : ChangeSpec := { name := "guessSteady", fn := fun _ => fun
  | [d1, d2, d3, d4, d5, d6] => { results := [.lit (.bool false)], args := [d1, d2, d3, d4, d5, d6] }
  | _ => none }
def GuessSteadyWrongFalsely : Prop := guessSteadyRow.holds Try.pinned (OpenSpec.ofChange guessSteadyWrong)

/-- 'tandemlaw18.GuessReturns': WHATEVER THE INPUT: true; the input reads as it did. -/
def guessReturnsSpec : ChangeSpec := { name := "guessReturns", fn := fun _ => fun
  | [d1, d2, d3] => { results := [.lit (.bool true)], args := [d1, d2, d3] }
  | _ => none }
def guessReturnsRow : OpenClaim := { program := "ytabkkeniaepibaa", sum := "3814b3020af82a6583b29745a2416a7fe47a71d931eaab1e439913bbd2c3a114", func := "tandem/tandemlaw18.GuessReturns", spec := "guessReturns", apart := false }
def GuessReturnsSaid : Prop := guessReturnsRow.holds Try.pinned (OpenSpec.ofChange guessReturnsSpec)

/-- ITS FALSE NEIGHBOUR: 'it returns false'. Refute it at one input. -/
def guessReturnsWrong : ChangeSpec := { name := "guessReturns", fn := fun _ => fun
  | [d1, d2, d3] => { results := [.lit (.bool false)], args := [d1, d2, d3] }
  | _ => none }
def GuessReturnsWrongFalsely : Prop := guessReturnsRow.holds Try.pinned (OpenSpec.ofChange guessReturnsWrong)

/-- 'tandemlaw18.GuessRows': WHATEVER THE INPUT: true; the input reads as it did. -/
def guessRowsSpec : ChangeSpec := { name := "guessRows", fn := fun _ => fun
  | [d1, d2, d3, d4] => { results := [.lit (.bool true)], args := [d1, d2, d3, d4] }
  | _ => none }
def guessRowsRow : OpenClaim := { program := "ytabkkeniaepibaa", sum := "3814b3020af82a6583b29745a2416a7fe47a71d931eaab1e439913bbd2c3a114", func := "tandem/tandemlaw18.GuessRows", spec := "guessRows", apart := false }
def GuessRowsSaid : Prop := guessRowsRow.holds Try.pinned (OpenSpec.ofChange guessRowsSpec)

/-- ITS FALSE NEIGHBOUR: 'it returns false'. Refute it at one input. -/
def guessRowsWrong : ChangeSpec := { name := "guessRows", fn := fun _ => fun
  | [d1, d2, d3, d4] => { results := [.lit (.bool false)], args := [d1, d2, d3, d4] }
  | _ => none }
def GuessRowsWrongFalsely : Prop := guessRowsRow.holds Try.pinned (OpenSpec.ofChange guessRowsWrong)

/-- 'tandemlaw18.GuessSeeds': WHATEVER THE INPUT: true; the input reads as it did. -/
def guessSeedsSpec : ChangeSpec := { name := "guessSeeds", fn := fun _ => fun
  | [d1, d2, d3] => { results := [.lit (.bool true)], args := [d1, d2, d3] }
  | _ => none }
def guessSeedsRow : OpenClaim := { program := "ytabkkeniaepibaa", sum := "3814b3020af82a6583b29745a2416a7fe47a71d931eaab1e439913bbd2c3a114", func := "tandem/tandemlaw18.GuessSeeds", spec := "guessSeeds", apart := false }
def GuessSeedsSaid : Prop := guessSeedsRow.holds Try.pinned (OpenSpec.ofChange guessSeedsSpec)

/-- ITS FALSE NEIGHBOUR: 'it returns false'. Refute it at one input. -/
def guessSeedsWrong : ChangeSpec := { name := "guessSeeds", fn := fun _ => fun
  | [d1, d2, d3] => { results := [.lit (.bool false)], args := [d1, d2, d3] }
  | _ => none }
def GuessSeedsWrongFalsely : Prop := guessSeedsRow.holds Try.pinned (OpenSpec.ofChange guessSeedsWrong)

/- THE SECOND FORM. 'bulk': how many values and letters a reading holds, each counted each time it is reached (what is shared counts as often as it is met; a slice's spare places count too). A statement '..UptoSaid' is the law's where the arguments, and the package variables that the reading takes, are together of bulk at most 1048576: NARROWER than '..Said'. Prove '..Said' where nothing that the law and all that it calls make is longer than what came in: it says more and counts as full. Else prove '..UptoSaid'. A law counts once. -/
mutual
def uptoBulk {H : Type} : DataW H → Nat
  | .lit (.string bytes) => bytes.length + 1
  | .lit _ => 1
  | .nil => 1
  | .ptr d => uptoBulk d + 1
  | .slice elems spare => uptoBulkAll elems + uptoBulkAll spare + 1
  | .agg parts => uptoBulkAll parts + 1
  | .iface _ d => uptoBulk d + 1
  | .map entries => uptoBulkEntries entries + 1
  | .held _ => 1
def uptoBulkAll {H : Type} : List (DataW H) → Nat
  | [] => 0
  | d :: r => uptoBulk d + uptoBulkAll r
def uptoBulkEntries {H : Type} : List (Lit × DataW H) → Nat
  | [] => 0
  | x :: r => uptoBulkEntry x + uptoBulkEntries r
def uptoBulkEntry {H : Type} : Lit × DataW H → Nat
  | (.string bytes, d) => bytes.length + uptoBulk d + 1
  | (_, d) => uptoBulk d + 1
 end
def uptoSmall : (H : Type) → List (DataW H) → Bool := fun _ ds => decide (uptoBulkAll ds ≤ 1048576)
def OpenSpec.upto (s : _root_.Go.ChangeSpec) : _root_.Go.OpenSpec := { _root_.Go.OpenSpec.ofChange s with cond := some uptoSmall }

/-- 'tandemlaw18.GuessDoes', WHERE WHAT IT READS IS OF BULK AT MOST 1048576: true; the input reads as it did. -/
def guessDoesUptoRow : OpenClaim := { program := "ytabkkeniaepibaa", sum := "3814b3020af82a6583b29745a2416a7fe47a71d931eaab1e439913bbd2c3a114", func := "tandem/tandemlaw18.GuessDoes", spec := "guessDoes", apart := false, narrowed := true }
def GuessDoesUptoSaid : Prop := guessDoesUptoRow.holds Try.pinned (OpenSpec.upto guessDoesSpec)

/-- 'tandemlaw18.GuessSteady', WHERE WHAT IT READS IS OF BULK AT MOST 1048576: true; the input reads as it did. -/
def guessSteadyUptoRow : OpenClaim := { program := "ytabkkeniaepibaa", sum := "3814b3020af82a6583b29745a2416a7fe47a71d931eaab1e439913bbd2c3a114", func := "tandem/tandemlaw18.GuessSteady", spec := "guessSteady", apart := false, narrowed := true }
def GuessSteadyUptoSaid : Prop := guessSteadyUptoRow.holds Try.pinned (OpenSpec.upto guessSteadySpec)

/-- 'tandemlaw18.GuessReturns', WHERE WHAT IT READS IS OF BULK AT MOST 1048576: true; the input reads as it did. -/
def guessReturnsUptoRow : OpenClaim := { program := "ytabkkeniaepibaa", sum := "3814b3020af82a6583b29745a2416a7fe47a71d931eaab1e439913bbd2c3a114", func := "tandem/tandemlaw18.GuessReturns", spec := "guessReturns", apart := false, narrowed := true }
def GuessReturnsUptoSaid : Prop := guessReturnsUptoRow.holds Try.pinned (OpenSpec.upto guessReturnsSpec)

/-- 'tandemlaw18.GuessRows', WHERE WHAT IT READS IS OF BULK AT MOST 1048576: true; the input reads as it did. -/
def guessRowsUptoRow : OpenClaim := { program := "ytabkkeniaepibaa", sum := "3814b3020af82a6583b29745a2416a7fe47a71d931eaab1e439913bbd2c3a114", func := "tandem/tandemlaw18.GuessRows", spec := "guessRows", apart := false, narrowed := true }
def GuessRowsUptoSaid : Prop := guessRowsUptoRow.holds Try.pinned (OpenSpec.upto guessRowsSpec)

/-- 'tandemlaw18.GuessSeeds', WHERE WHAT IT READS IS OF BULK AT MOST 1048576: true; the input reads as it did. -/
def guessSeedsUptoRow : OpenClaim := { program := "ytabkkeniaepibaa", sum := "3814b3020af82a6583b29745a2416a7fe47a71d931eaab1e439913bbd2c3a114", func := "tandem/tandemlaw18.GuessSeeds", spec := "guessSeeds", apart := false, narrowed := true }
def GuessSeedsUptoSaid : Prop := guessSeedsUptoRow.holds Try.pinned (OpenSpec.upto guessSeedsSpec)

end Rows
end Go.Proofs.Ytabkkeniaepibaa
