/-
  DERIVED. GIVEN WITH THE SEED: THE CARDS: each row of YtaemkfcdhgpdnaaDoorRows.lean that lists a variable, with what it lists TIED to the program's text (the seventh form; the later family's looks); each row that meets fmt, with fmt's text TOLD by the authors' own Lean function (tested against real Go, not proved from fmt's source: count such statements apart). THE CARD IS WHAT COUNTS. Prove the row's statement (the work); the ties are given (YtaemkfcdhgpdnaaDoorTie.lean); close each card by the builder's one call (the guide's Derived/Test/ToyasCard.lean, 'card_holds'). Laid BY PROGRAM, IN A SANDBOX (cutbox-door.mjs). By AI agents, Wed Nov 11 2026. No macro, syntax, notation, axiom, sorry.
-/
import Derived.Test.YtaemkfcdhgpdnaaDoorRows
import GoSem.ClaimSeven
namespace Go.Proofs.YtaemkfcdhgpdnaaDoor
namespace Rows

/-- THE TIED CARD OF 'tandemlaw04.SqueezeExpands'. -/
def squeezeExpandsCard : Claim7 := { stood := { row := squeezeExpandsRow, standIns := [], harness := (true, "b391b7c29c9d694eb953e12d0b6cfb3b82c4369fe774af31f0aecbfc7223fd82"), looks := false }, kinds := [], alts := [], laidByText := true, laidKinds := [.widerDeep], laidTests := true, laidLooks := .later }
def SqueezeExpandsCardSaid : Prop := Claim7.holds Tryd.pinned (.plain (OpenSpec.ofChange squeezeExpandsSpec)) squeezeExpandsCard

/-- THE TIED CARD OF 'tandemlaw04.SqueezeShrinks'. -/
def squeezeShrinksCard : Claim7 := { stood := { row := squeezeShrinksRow, standIns := [], harness := (true, "b391b7c29c9d694eb953e12d0b6cfb3b82c4369fe774af31f0aecbfc7223fd82"), looks := false }, kinds := [], alts := [], laidByText := true, laidKinds := [.widerDeep], laidTests := true, laidLooks := .later }
def SqueezeShrinksCardSaid : Prop := Claim7.holds Tryd.pinned (.plain (OpenSpec.ofChange squeezeShrinksSpec)) squeezeShrinksCard

/-- THE TIED CARD OF 'tandemlaw04.SqueezeBack'. -/
def squeezeBackCard : Claim7 := { stood := { row := squeezeBackRow, standIns := [], harness := (true, "b391b7c29c9d694eb953e12d0b6cfb3b82c4369fe774af31f0aecbfc7223fd82"), looks := false }, kinds := [], alts := [], laidByText := true, laidKinds := [.widerDeep], laidTests := true, laidLooks := .later }
def SqueezeBackCardSaid : Prop := Claim7.holds Tryd.pinned (.plain (OpenSpec.ofChange squeezeBackSpec)) squeezeBackCard

/-- THE TIED CARD OF 'tandemlaw04.SqueezeRegs'. -/
def squeezeRegsCard : Claim7 := { stood := { row := squeezeRegsRow, standIns := [], harness := (true, "b391b7c29c9d694eb953e12d0b6cfb3b82c4369fe774af31f0aecbfc7223fd82"), looks := false }, kinds := [], alts := [], laidByText := true, laidKinds := [.widerDeep], laidTests := true, laidLooks := .later }
def SqueezeRegsCardSaid : Prop := Claim7.holds Tryd.pinned (.plain (OpenSpec.ofChange squeezeRegsSpec)) squeezeRegsCard

/-- THE SECOND FORM's CARD OF 'tandemlaw04.SqueezeExpands'. -/
def squeezeExpandsUptoCard : Claim7 := { stood := { row := squeezeExpandsUptoRow, standIns := [], harness := (true, "b391b7c29c9d694eb953e12d0b6cfb3b82c4369fe774af31f0aecbfc7223fd82"), looks := false }, kinds := [], alts := [], laidByText := true, laidKinds := [.widerDeep], laidTests := true, laidLooks := .later }
def SqueezeExpandsUptoCardSaid : Prop := Claim7.holds Tryd.pinned (.plain (OpenSpec.upto squeezeExpandsSpec)) squeezeExpandsUptoCard

/-- THE SECOND FORM's CARD OF 'tandemlaw04.SqueezeShrinks'. -/
def squeezeShrinksUptoCard : Claim7 := { stood := { row := squeezeShrinksUptoRow, standIns := [], harness := (true, "b391b7c29c9d694eb953e12d0b6cfb3b82c4369fe774af31f0aecbfc7223fd82"), looks := false }, kinds := [], alts := [], laidByText := true, laidKinds := [.widerDeep], laidTests := true, laidLooks := .later }
def SqueezeShrinksUptoCardSaid : Prop := Claim7.holds Tryd.pinned (.plain (OpenSpec.upto squeezeShrinksSpec)) squeezeShrinksUptoCard

/-- THE SECOND FORM's CARD OF 'tandemlaw04.SqueezeBack'. -/
def squeezeBackUptoCard : Claim7 := { stood := { row := squeezeBackUptoRow, standIns := [], harness := (true, "b391b7c29c9d694eb953e12d0b6cfb3b82c4369fe774af31f0aecbfc7223fd82"), looks := false }, kinds := [], alts := [], laidByText := true, laidKinds := [.widerDeep], laidTests := true, laidLooks := .later }
def SqueezeBackUptoCardSaid : Prop := Claim7.holds Tryd.pinned (.plain (OpenSpec.upto squeezeBackSpec)) squeezeBackUptoCard

/-- THE SECOND FORM's CARD OF 'tandemlaw04.SqueezeRegs'. -/
def squeezeRegsUptoCard : Claim7 := { stood := { row := squeezeRegsUptoRow, standIns := [], harness := (true, "b391b7c29c9d694eb953e12d0b6cfb3b82c4369fe774af31f0aecbfc7223fd82"), looks := false }, kinds := [], alts := [], laidByText := true, laidKinds := [.widerDeep], laidTests := true, laidLooks := .later }
def SqueezeRegsUptoCardSaid : Prop := Claim7.holds Tryd.pinned (.plain (OpenSpec.upto squeezeRegsSpec)) squeezeRegsUptoCard
end Rows
end Go.Proofs.YtaemkfcdhgpdnaaDoor
