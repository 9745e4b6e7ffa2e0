/-
  NARROWER THAN 'FOR EVERY INPUT', by the rows' own cells (each row's printed sentence says how): FetchRow: laid · FetchStops: laid · FetchAnew: laid · FetchDoes: laid · FetchChains: laid.
  DERIVED. THE GIVEN ROWS OF THIS SEAT. 5 by the template 'for every input the law returns true; each argument reads behind the call as it read before'; 0 by the template 'total and deterministic' (their statements: YtblbgalpkodibaaDoorTotals.lean).
  GIVEN WITH THE SEED: the statements are not yours to turn. If you find one false, say at which input.
  Laid BY PROGRAM, IN A SANDBOX (cutbox-rows.mjs): the forced cells as the released guide's own fill.sh prints them over the translation 3db5c612b2dbb178… (all of the seat's roots in one cut). By AI agents, Wed Nov 11 2026. No macro, syntax, notation, axiom, sorry.
-/
import Derived.Test.YtblbgalpkodibaaDoorChecked
import GoSem.Claim
import GoSem.ClaimJoined
import GoSem.ClaimMapViews
import Derived.JoinedTies
import Derived.KernelRfl
namespace Go.Proofs.YtblbgalpkodibaaDoor
/- THE CELL 'sum', in the pinned program and in every row, IS THE sha256 OF THE DUMP (.gsa) THAT YtblbgalpkodibaaDoorProg.lean LOADS. Nothing in Lean hashes anything: it is a label: what it is worth is what the hold of that sum in a sandbox is worth. -/
noncomputable def Tryd.pinned : Pinned := { name := "ytblbgalpkodibaadoor", sum := "3db5c612b2dbb17852b4a51d831f2621f22978eabb3816a9867f6ccb30163d74", checked := Tryd.checked }
namespace Rows
def none {H : Type} : Left H := { results := [], args := [] }

/- WHAT THE LISTED PACKAGE-LEVEL VARIABLES READ AS WHEN THE CALL BEGINS. Each datum BY PROGRAM (the guide's laid-datum.mjs) off the statement by which the dump's own 'gosem.cut.vars' lays the variable. In a bare row this is a premise. The card (YtblbgalpkodibaaDoorCards.lean) ties it to the program's text. -/
def laid_tandem_squeeze_places {H : Type} : DataW H := .agg [.slice [.lit (.int .i64 5), .lit (.int .i64 4), .lit (.int .i64 9), .lit (.int .i64 8), .lit (.int .i64 7), .lit (.int .i64 6), .lit (.int .i64 2), .lit (.int .i64 3)] [], .slice [.lit (.int .i64 5), .lit (.int .i64 4), .lit (.int .i64 3), .lit (.int .i64 7), .lit (.int .i64 6)] [], .slice [.lit (.int .i64 5), .lit (.int .i64 4), .lit (.int .i64 3), .lit (.int .i64 2), .lit (.int .i64 6)] [], .slice [.lit (.int .i64 5), .lit (.int .i64 4), .lit (.int .i64 3), .lit (.int .i64 2), .lit (.int .i64 1), .lit (.int .i64 0)] [], .slice [.lit (.int .i64 9), .lit (.int .i64 4), .lit (.int .i64 6), .lit (.int .i64 8), .lit (.int .i64 7), .lit (.int .i64 5)] [], .slice [.lit (.int .i64 11), .lit (.int .i64 4), .lit (.int .i64 9), .lit (.int .i64 8), .lit (.int .i64 10), .lit (.int .i64 6), .lit (.int .i64 7), .lit (.int .i64 3), .lit (.int .i64 2), .lit (.int .i64 1), .lit (.int .i64 5)] [], .slice [.lit (.int .i64 8), .lit (.int .i64 4), .lit (.int .i64 3), .lit (.int .i64 7), .lit (.int .i64 6), .lit (.int .i64 2), .lit (.int .i64 1), .lit (.int .i64 5)] [], .slice [.lit (.int .i64 5), .lit (.int .i64 4), .lit (.int .i64 3), .lit (.int .i64 8), .lit (.int .i64 7), .lit (.int .i64 6)] [], .slice [.lit (.int .i64 5), .lit (.int .i64 4), .lit (.int .i64 3), .lit (.int .i64 2), .lit (.int .i64 7), .lit (.int .i64 6)] []]

/-- 'tandemlaw20.FetchRow': WHATEVER THE INPUT: true; the input reads as it did. -/
def fetchRowSpec : ChangeSpec := { name := "fetchRow", fn := fun _ => fun
  | [d1, d2, d3] => { results := [.lit (.bool true)], args := [d1, d2, d3] }
  | _ => none }
def fetchRowRow : OpenClaim := { program := "ytblbgalpkodibaadoor", sum := "3db5c612b2dbb17852b4a51d831f2621f22978eabb3816a9867f6ccb30163d74", func := "tandem/tandemlaw20.FetchRow", spec := "fetchRow", unfollowed := true, recurses := true, named := ["tandem/squeeze.places"], apart := false, laid := [("tandem/squeeze.places", laid_tandem_squeeze_places)] }
def FetchRowSaid : Prop := fetchRowRow.holds Tryd.pinned (OpenSpec.ofChange fetchRowSpec)

/-- ITS FALSE NEIGHBOUR: 'it returns false'. Refute it at one input. -/
def fetchRowWrong : ChangeSpec := { name := "fetchRow", fn := fun _ => fun
  | [d1, d2, d3] => { results := [.lit (.bool false)], args := [d1, d2, d3] }
  | _ => none }
def FetchRowWrongFalsely : Prop := fetchRowRow.holds Tryd.pinned (OpenSpec.ofChange fetchRowWrong)

/-- 'tandemlaw20.FetchStops': WHATEVER THE INPUT: true; the input reads as it did. -/
def fetchStopsSpec : ChangeSpec := { name := "fetchStops", fn := fun _ => fun
  | [d1, d2, d3, d4, d5] => { results := [.lit (.bool true)], args := [d1, d2, d3, d4, d5] }
  | _ => none }
def fetchStopsRow : OpenClaim := { program := "ytblbgalpkodibaadoor", sum := "3db5c612b2dbb17852b4a51d831f2621f22978eabb3816a9867f6ccb30163d74", func := "tandem/tandemlaw20.FetchStops", spec := "fetchStops", unfollowed := true, recurses := true, named := ["tandem/squeeze.places"], apart := false, laid := [("tandem/squeeze.places", laid_tandem_squeeze_places)] }
def FetchStopsSaid : Prop := fetchStopsRow.holds Tryd.pinned (OpenSpec.ofChange fetchStopsSpec)

/-- ITS FALSE NEIGHBOUR: 'it returns false'. Refute it at one input. -/
def fetchStopsWrong : ChangeSpec := { name := "fetchStops", fn := fun _ => fun
  | [d1, d2, d3, d4, d5] => { results := [.lit (.bool false)], args := [d1, d2, d3, d4, d5] }
  | _ => none }
def FetchStopsWrongFalsely : Prop := fetchStopsRow.holds Tryd.pinned (OpenSpec.ofChange fetchStopsWrong)

/-- 'tandemlaw20.FetchAnew': WHATEVER THE INPUT: true; the input reads as it did. -/
def fetchAnewSpec : ChangeSpec := { name := "fetchAnew", fn := fun _ => fun
  | [d1, d2, d3, d4, d5] => { results := [.lit (.bool true)], args := [d1, d2, d3, d4, d5] }
  | _ => none }
def fetchAnewRow : OpenClaim := { program := "ytblbgalpkodibaadoor", sum := "3db5c612b2dbb17852b4a51d831f2621f22978eabb3816a9867f6ccb30163d74", func := "tandem/tandemlaw20.FetchAnew", spec := "fetchAnew", unfollowed := true, recurses := true, named := ["tandem/squeeze.places"], apart := false, laid := [("tandem/squeeze.places", laid_tandem_squeeze_places)] }
def FetchAnewSaid : Prop := fetchAnewRow.holds Tryd.pinned (OpenSpec.ofChange fetchAnewSpec)

/-- ITS FALSE NEIGHBOUR: 'it returns false'. Refute it at one input. -/
def fetchAnewWrong : ChangeSpec := { name := "fetchAnew", fn := fun _ => fun
  | [d1, d2, d3, d4, d5] => { results := [.lit (.bool false)], args := [d1, d2, d3, d4, d5] }
  | _ => none }
def FetchAnewWrongFalsely : Prop := fetchAnewRow.holds Tryd.pinned (OpenSpec.ofChange fetchAnewWrong)

/-- 'tandemlaw20.FetchDoes': WHATEVER THE INPUT: true; the input reads as it did. -/
def fetchDoesSpec : ChangeSpec := { name := "fetchDoes", fn := fun _ => fun
  | [d1, d2, d3] => { results := [.lit (.bool true)], args := [d1, d2, d3] }
  | _ => none }
def fetchDoesRow : OpenClaim := { program := "ytblbgalpkodibaadoor", sum := "3db5c612b2dbb17852b4a51d831f2621f22978eabb3816a9867f6ccb30163d74", func := "tandem/tandemlaw20.FetchDoes", spec := "fetchDoes", unfollowed := true, recurses := true, named := ["tandem/squeeze.places"], apart := false, laid := [("tandem/squeeze.places", laid_tandem_squeeze_places)] }
def FetchDoesSaid : Prop := fetchDoesRow.holds Tryd.pinned (OpenSpec.ofChange fetchDoesSpec)

/-- ITS FALSE NEIGHBOUR: 'it returns false'. Refute it at one input. -/
def fetchDoesWrong : ChangeSpec := { name := "fetchDoes", fn := fun _ => fun
  | [d1, d2, d3] => { results := [.lit (.bool false)], args := [d1, d2, d3] }
  | _ => none }
def FetchDoesWrongFalsely : Prop := fetchDoesRow.holds Tryd.pinned (OpenSpec.ofChange fetchDoesWrong)

/-- 'tandemlaw20.FetchChains': WHATEVER THE INPUT: true; the input reads as it did. -/
def fetchChainsSpec : ChangeSpec := { name := "fetchChains", fn := fun _ => fun
  | [d1, d2, d3] => { results := [.lit (.bool true)], args := [d1, d2, d3] }
  | _ => none }
def fetchChainsRow : OpenClaim := { program := "ytblbgalpkodibaadoor", sum := "3db5c612b2dbb17852b4a51d831f2621f22978eabb3816a9867f6ccb30163d74", func := "tandem/tandemlaw20.FetchChains", spec := "fetchChains", unfollowed := true, recurses := true, named := ["tandem/squeeze.places"], apart := false, laid := [("tandem/squeeze.places", laid_tandem_squeeze_places)] }
def FetchChainsSaid : Prop := fetchChainsRow.holds Tryd.pinned (OpenSpec.ofChange fetchChainsSpec)

/-- ITS FALSE NEIGHBOUR: 'it returns false'. Refute it at one input. -/
def fetchChainsWrong : ChangeSpec := { name := "fetchChains", fn := fun _ => fun
  | [d1, d2, d3] => { results := [.lit (.bool false)], args := [d1, d2, d3] }
  | _ => none }
def FetchChainsWrongFalsely : Prop := fetchChainsRow.holds Tryd.pinned (OpenSpec.ofChange fetchChainsWrong)

/- THE SECOND FORM. 'bulk': how many values and letters a reading holds, each counted each time it is reached (what is shared counts as often as it is met; a slice's spare places count too). A statement '..UptoSaid' is the law's where the arguments, and the package variables that the reading takes, are together of bulk at most 1048576: NARROWER than '..Said'. Prove '..Said' where nothing that the law and all that it calls make is longer than what came in: it says more and counts as full. Else prove '..UptoSaid'. A law counts once. -/
mutual
def uptoBulk {H : Type} : DataW H → Nat
  | .lit (.string bytes) => bytes.length + 1
  | .lit _ => 1
  | .nil => 1
  | .ptr d => uptoBulk d + 1
  | .slice elems spare => uptoBulkAll elems + uptoBulkAll spare + 1
  | .agg parts => uptoBulkAll parts + 1
  | .iface _ d => uptoBulk d + 1
  | .map entries => uptoBulkEntries entries + 1
  | .held _ => 1
def uptoBulkAll {H : Type} : List (DataW H) → Nat
  | [] => 0
  | d :: r => uptoBulk d + uptoBulkAll r
def uptoBulkEntries {H : Type} : List (Lit × DataW H) → Nat
  | [] => 0
  | x :: r => uptoBulkEntry x + uptoBulkEntries r
def uptoBulkEntry {H : Type} : Lit × DataW H → Nat
  | (.string bytes, d) => bytes.length + uptoBulk d + 1
  | (_, d) => uptoBulk d + 1
 end
def uptoSmall : (H : Type) → List (DataW H) → Bool := fun _ ds => decide (uptoBulkAll ds ≤ 1048576)
def OpenSpec.upto (s : _root_.Go.ChangeSpec) : _root_.Go.OpenSpec := { _root_.Go.OpenSpec.ofChange s with cond := some uptoSmall }

/-- 'tandemlaw20.FetchRow', WHERE WHAT IT READS IS OF BULK AT MOST 1048576: true; the input reads as it did. -/
def fetchRowUptoRow : OpenClaim := { program := "ytblbgalpkodibaadoor", sum := "3db5c612b2dbb17852b4a51d831f2621f22978eabb3816a9867f6ccb30163d74", func := "tandem/tandemlaw20.FetchRow", spec := "fetchRow", unfollowed := true, recurses := true, named := ["tandem/squeeze.places"], apart := false, laid := [("tandem/squeeze.places", laid_tandem_squeeze_places)], narrowed := true }
def FetchRowUptoSaid : Prop := fetchRowUptoRow.holds Tryd.pinned (OpenSpec.upto fetchRowSpec)

/-- 'tandemlaw20.FetchStops', WHERE WHAT IT READS IS OF BULK AT MOST 1048576: true; the input reads as it did. -/
def fetchStopsUptoRow : OpenClaim := { program := "ytblbgalpkodibaadoor", sum := "3db5c612b2dbb17852b4a51d831f2621f22978eabb3816a9867f6ccb30163d74", func := "tandem/tandemlaw20.FetchStops", spec := "fetchStops", unfollowed := true, recurses := true, named := ["tandem/squeeze.places"], apart := false, laid := [("tandem/squeeze.places", laid_tandem_squeeze_places)], narrowed := true }
def FetchStopsUptoSaid : Prop := fetchStopsUptoRow.holds Tryd.pinned (OpenSpec.upto fetchStopsSpec)

/-- 'tandemlaw20.FetchAnew', WHERE WHAT IT READS IS OF BULK AT MOST 1048576: true; the input reads as it did. -/
def fetchAnewUptoRow : OpenClaim := { program := "ytblbgalpkodibaadoor", sum := "3db5c612b2dbb17852b4a51d831f2621f22978eabb3816a9867f6ccb30163d74", func := "tandem/tandemlaw20.FetchAnew", spec := "fetchAnew", unfollowed := true, recurses := true, named := ["tandem/squeeze.places"], apart := false, laid := [("tandem/squeeze.places", laid_tandem_squeeze_places)], narrowed := true }
def FetchAnewUptoSaid : Prop := fetchAnewUptoRow.holds Tryd.pinned (OpenSpec.upto fetchAnewSpec)

/-- 'tandemlaw20.FetchDoes', WHERE WHAT IT READS IS OF BULK AT MOST 1048576: true; the input reads as it did. -/
def fetchDoesUptoRow : OpenClaim := { program := "ytblbgalpkodibaadoor", sum := "3db5c612b2dbb17852b4a51d831f2621f22978eabb3816a9867f6ccb30163d74", func := "tandem/tandemlaw20.FetchDoes", spec := "fetchDoes", unfollowed := true, recurses := true, named := ["tandem/squeeze.places"], apart := false, laid := [("tandem/squeeze.places", laid_tandem_squeeze_places)], narrowed := true }
def FetchDoesUptoSaid : Prop := fetchDoesUptoRow.holds Tryd.pinned (OpenSpec.upto fetchDoesSpec)

/-- 'tandemlaw20.FetchChains', WHERE WHAT IT READS IS OF BULK AT MOST 1048576: true; the input reads as it did. -/
def fetchChainsUptoRow : OpenClaim := { program := "ytblbgalpkodibaadoor", sum := "3db5c612b2dbb17852b4a51d831f2621f22978eabb3816a9867f6ccb30163d74", func := "tandem/tandemlaw20.FetchChains", spec := "fetchChains", unfollowed := true, recurses := true, named := ["tandem/squeeze.places"], apart := false, laid := [("tandem/squeeze.places", laid_tandem_squeeze_places)], narrowed := true }
def FetchChainsUptoSaid : Prop := fetchChainsUptoRow.holds Tryd.pinned (OpenSpec.upto fetchChainsSpec)

end Rows
end Go.Proofs.YtblbgalpkodibaaDoor
