/-
  DERIVED. GIVEN WITH THE SEED: THE CARDS: each row of YtblbgalpkodibaaDoorRows.lean that lists a variable, with what it lists TIED to the program's text (the seventh form; the later family's looks); each row that meets fmt, with fmt's text TOLD by the authors' own Lean function (tested against real Go, not proved from fmt's source: count such statements apart). THE CARD IS WHAT COUNTS. Prove the row's statement (the work); the ties are given (YtblbgalpkodibaaDoorTie.lean); close each card by the builder's one call (the guide's Derived/Test/ToyasCard.lean, 'card_holds'). Laid BY PROGRAM, IN A SANDBOX (cutbox-door.mjs). By AI agents, Wed Nov 11 2026. No macro, syntax, notation, axiom, sorry.
-/
import Derived.Test.YtblbgalpkodibaaDoorRows
import GoSem.ClaimSeven
namespace Go.Proofs.YtblbgalpkodibaaDoor
namespace Rows

/-- THE TIED CARD OF 'tandemlaw20.FetchRow'. -/
def fetchRowCard : Claim7 := { stood := { row := fetchRowRow, standIns := [], harness := (true, "37a831f9a41131f63cedd85205cc6667fbe94b4ac0c7369c05692ba4121ea36e"), looks := false }, kinds := [], alts := [], laidByText := true, laidKinds := [.widerDeep], laidTests := true, laidLooks := .later }
def FetchRowCardSaid : Prop := Claim7.holds Tryd.pinned (.plain (OpenSpec.ofChange fetchRowSpec)) fetchRowCard

/-- THE TIED CARD OF 'tandemlaw20.FetchStops'. -/
def fetchStopsCard : Claim7 := { stood := { row := fetchStopsRow, standIns := [], harness := (true, "37a831f9a41131f63cedd85205cc6667fbe94b4ac0c7369c05692ba4121ea36e"), looks := false }, kinds := [], alts := [], laidByText := true, laidKinds := [.widerDeep], laidTests := true, laidLooks := .later }
def FetchStopsCardSaid : Prop := Claim7.holds Tryd.pinned (.plain (OpenSpec.ofChange fetchStopsSpec)) fetchStopsCard

/-- THE TIED CARD OF 'tandemlaw20.FetchAnew'. -/
def fetchAnewCard : Claim7 := { stood := { row := fetchAnewRow, standIns := [], harness := (true, "37a831f9a41131f63cedd85205cc6667fbe94b4ac0c7369c05692ba4121ea36e"), looks := false }, kinds := [], alts := [], laidByText := true, laidKinds := [.widerDeep], laidTests := true, laidLooks := .later }
def FetchAnewCardSaid : Prop := Claim7.holds Tryd.pinned (.plain (OpenSpec.ofChange fetchAnewSpec)) fetchAnewCard

/-- THE TIED CARD OF 'tandemlaw20.FetchDoes'. -/
def fetchDoesCard : Claim7 := { stood := { row := fetchDoesRow, standIns := [], harness := (true, "37a831f9a41131f63cedd85205cc6667fbe94b4ac0c7369c05692ba4121ea36e"), looks := false }, kinds := [], alts := [], laidByText := true, laidKinds := [.widerDeep], laidTests := true, laidLooks := .later }
def FetchDoesCardSaid : Prop := Claim7.holds Tryd.pinned (.plain (OpenSpec.ofChange fetchDoesSpec)) fetchDoesCard

/-- THE TIED CARD OF 'tandemlaw20.FetchChains'. -/
def fetchChainsCard : Claim7 := { stood := { row := fetchChainsRow, standIns := [], harness := (true, "37a831f9a41131f63cedd85205cc6667fbe94b4ac0c7369c05692ba4121ea36e"), looks := false }, kinds := [], alts := [], laidByText := true, laidKinds := [.widerDeep], laidTests := true, laidLooks := .later }
def FetchChainsCardSaid : Prop := Claim7.holds Tryd.pinned (.plain (OpenSpec.ofChange fetchChainsSpec)) fetchChainsCard

/-- THE SECOND FORM's CARD OF 'tandemlaw20.FetchRow'. -/
def fetchRowUptoCard : Claim7 := { stood := { row := fetchRowUptoRow, standIns := [], harness := (true, "37a831f9a41131f63cedd85205cc6667fbe94b4ac0c7369c05692ba4121ea36e"), looks := false }, kinds := [], alts := [], laidByText := true, laidKinds := [.widerDeep], laidTests := true, laidLooks := .later }
def FetchRowUptoCardSaid : Prop := Claim7.holds Tryd.pinned (.plain (OpenSpec.upto fetchRowSpec)) fetchRowUptoCard

/-- THE SECOND FORM's CARD OF 'tandemlaw20.FetchStops'. -/
def fetchStopsUptoCard : Claim7 := { stood := { row := fetchStopsUptoRow, standIns := [], harness := (true, "37a831f9a41131f63cedd85205cc6667fbe94b4ac0c7369c05692ba4121ea36e"), looks := false }, kinds := [], alts := [], laidByText := true, laidKinds := [.widerDeep], laidTests := true, laidLooks := .later }
def FetchStopsUptoCardSaid : Prop := Claim7.holds Tryd.pinned (.plain (OpenSpec.upto fetchStopsSpec)) fetchStopsUptoCard

/-- THE SECOND FORM's CARD OF 'tandemlaw20.FetchAnew'. -/
def fetchAnewUptoCard : Claim7 := { stood := { row := fetchAnewUptoRow, standIns := [], harness := (true, "37a831f9a41131f63cedd85205cc6667fbe94b4ac0c7369c05692ba4121ea36e"), looks := false }, kinds := [], alts := [], laidByText := true, laidKinds := [.widerDeep], laidTests := true, laidLooks := .later }
def FetchAnewUptoCardSaid : Prop := Claim7.holds Tryd.pinned (.plain (OpenSpec.upto fetchAnewSpec)) fetchAnewUptoCard

/-- THE SECOND FORM's CARD OF 'tandemlaw20.FetchDoes'. -/
def fetchDoesUptoCard : Claim7 := { stood := { row := fetchDoesUptoRow, standIns := [], harness := (true, "37a831f9a41131f63cedd85205cc6667fbe94b4ac0c7369c05692ba4121ea36e"), looks := false }, kinds := [], alts := [], laidByText := true, laidKinds := [.widerDeep], laidTests := true, laidLooks := .later }
def FetchDoesUptoCardSaid : Prop := Claim7.holds Tryd.pinned (.plain (OpenSpec.upto fetchDoesSpec)) fetchDoesUptoCard

/-- THE SECOND FORM's CARD OF 'tandemlaw20.FetchChains'. -/
def fetchChainsUptoCard : Claim7 := { stood := { row := fetchChainsUptoRow, standIns := [], harness := (true, "37a831f9a41131f63cedd85205cc6667fbe94b4ac0c7369c05692ba4121ea36e"), looks := false }, kinds := [], alts := [], laidByText := true, laidKinds := [.widerDeep], laidTests := true, laidLooks := .later }
def FetchChainsUptoCardSaid : Prop := Claim7.holds Tryd.pinned (.plain (OpenSpec.upto fetchChainsSpec)) fetchChainsUptoCard
end Rows
end Go.Proofs.YtblbgalpkodibaaDoor
