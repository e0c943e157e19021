/-
  DERIVED. GIVEN WITH THE SEED: THE CARDS: each row of YtfdkaakllceebaaDoorRows.lean that lists a variable, with what it lists TIED to the program's text (the seventh form; the later family's looks); each row that meets fmt, with fmt's text TOLD by the authors' own Lean function (tested against real Go, not proved from fmt's source: count such statements apart). THE CARD IS WHAT COUNTS. Prove the row's statement (the work); the ties are given (YtfdkaakllceebaaDoorTie.lean); close each card by the builder's one call (the guide's Derived/Test/ToyasCard.lean, 'card_holds'). Laid BY PROGRAM, IN A SANDBOX (cutbox-door.mjs). By AI agents, Wed Nov 11 2026. No macro, syntax, notation, axiom, sorry.
-/
import Derived.Test.YtfdkaakllceebaaDoorRows
import GoSem.ClaimSeven
namespace Go.Proofs.YtfdkaakllceebaaDoor
namespace Rows

/-- THE TIED CARD OF 'intagliolaw10.HeadsOnce'. -/
def headsOnceCard : Claim7 := { stood := { row := headsOnceRow, standIns := [], harness := (true, "db510bb7a42165c4f28e66472cd13eb631d0a73742be5a4cccac614c75d196c4"), looks := true }, kinds := [], alts := [], laidByText := true, laidKinds := [.handle], laidTests := true, laidLooks := .later }
def HeadsOnceCardSaid : Prop := Claim7.holds Tryd.pinned (.plain (OpenSpec.ofChange headsOnceSpec)) headsOnceCard

/-- THE TIED CARD OF 'intagliolaw10.HeadsTell'. -/
def headsTellCard : Claim7 := { stood := { row := headsTellRow, standIns := [], harness := (true, "db510bb7a42165c4f28e66472cd13eb631d0a73742be5a4cccac614c75d196c4"), looks := true }, kinds := [], alts := [], laidByText := true, laidKinds := [.handle], laidTests := true, laidLooks := .later }
def HeadsTellCardSaid : Prop := Claim7.holds Tryd.pinned (.plain (OpenSpec.ofChange headsTellSpec)) headsTellCard

/-- THE TIED CARD OF 'intagliolaw10.HeadsTurn'. -/
def headsTurnCard : Claim7 := { stood := { row := headsTurnRow, standIns := [], harness := (true, "db510bb7a42165c4f28e66472cd13eb631d0a73742be5a4cccac614c75d196c4"), looks := true }, kinds := [], alts := [], laidByText := true, laidKinds := [.handle], laidTests := true, laidLooks := .later }
def HeadsTurnCardSaid : Prop := Claim7.holds Tryd.pinned (.plain (OpenSpec.ofChange headsTurnSpec)) headsTurnCard

/-- THE TIED CARD OF 'intagliolaw10.HeadsFree'. -/
def headsFreeCard : Claim7 := { stood := { row := headsFreeRow, standIns := [], harness := (true, "db510bb7a42165c4f28e66472cd13eb631d0a73742be5a4cccac614c75d196c4"), looks := true }, kinds := [], alts := [], laidByText := true, laidKinds := [.handle], laidTests := true, laidLooks := .later }
def HeadsFreeCardSaid : Prop := Claim7.holds Tryd.pinned (.plain (OpenSpec.ofChange headsFreeSpec)) headsFreeCard

/-- THE TIED CARD OF 'intagliolaw10.HeadsList'. -/
def headsListCard : Claim7 := { stood := { row := headsListRow, standIns := [], harness := (true, "db510bb7a42165c4f28e66472cd13eb631d0a73742be5a4cccac614c75d196c4"), looks := true }, kinds := [], alts := [], laidByText := true, laidKinds := [.handle], laidTests := true, laidLooks := .later }
def HeadsListCardSaid : Prop := Claim7.holds Tryd.pinned (.plain (OpenSpec.ofChange headsListSpec)) headsListCard

/-- THE SECOND FORM's CARD OF 'intagliolaw10.HeadsOnce'. -/
def headsOnceUptoCard : Claim7 := { stood := { row := headsOnceUptoRow, standIns := [], harness := (true, "db510bb7a42165c4f28e66472cd13eb631d0a73742be5a4cccac614c75d196c4"), looks := true }, kinds := [], alts := [], laidByText := true, laidKinds := [.handle], laidTests := true, laidLooks := .later }
def HeadsOnceUptoCardSaid : Prop := Claim7.holds Tryd.pinned (.plain (OpenSpec.upto headsOnceSpec)) headsOnceUptoCard

/-- THE SECOND FORM's CARD OF 'intagliolaw10.HeadsTell'. -/
def headsTellUptoCard : Claim7 := { stood := { row := headsTellUptoRow, standIns := [], harness := (true, "db510bb7a42165c4f28e66472cd13eb631d0a73742be5a4cccac614c75d196c4"), looks := true }, kinds := [], alts := [], laidByText := true, laidKinds := [.handle], laidTests := true, laidLooks := .later }
def HeadsTellUptoCardSaid : Prop := Claim7.holds Tryd.pinned (.plain (OpenSpec.upto headsTellSpec)) headsTellUptoCard

/-- THE SECOND FORM's CARD OF 'intagliolaw10.HeadsTurn'. -/
def headsTurnUptoCard : Claim7 := { stood := { row := headsTurnUptoRow, standIns := [], harness := (true, "db510bb7a42165c4f28e66472cd13eb631d0a73742be5a4cccac614c75d196c4"), looks := true }, kinds := [], alts := [], laidByText := true, laidKinds := [.handle], laidTests := true, laidLooks := .later }
def HeadsTurnUptoCardSaid : Prop := Claim7.holds Tryd.pinned (.plain (OpenSpec.upto headsTurnSpec)) headsTurnUptoCard

/-- THE SECOND FORM's CARD OF 'intagliolaw10.HeadsFree'. -/
def headsFreeUptoCard : Claim7 := { stood := { row := headsFreeUptoRow, standIns := [], harness := (true, "db510bb7a42165c4f28e66472cd13eb631d0a73742be5a4cccac614c75d196c4"), looks := true }, kinds := [], alts := [], laidByText := true, laidKinds := [.handle], laidTests := true, laidLooks := .later }
def HeadsFreeUptoCardSaid : Prop := Claim7.holds Tryd.pinned (.plain (OpenSpec.upto headsFreeSpec)) headsFreeUptoCard

/-- THE SECOND FORM's CARD OF 'intagliolaw10.HeadsList'. -/
def headsListUptoCard : Claim7 := { stood := { row := headsListUptoRow, standIns := [], harness := (true, "db510bb7a42165c4f28e66472cd13eb631d0a73742be5a4cccac614c75d196c4"), looks := true }, kinds := [], alts := [], laidByText := true, laidKinds := [.handle], laidTests := true, laidLooks := .later }
def HeadsListUptoCardSaid : Prop := Claim7.holds Tryd.pinned (.plain (OpenSpec.upto headsListSpec)) headsListUptoCard
end Rows
end Go.Proofs.YtfdkaakllceebaaDoor
