/-
  DERIVED. GIVEN WITH THE SEED: THE CARDS: each row of YtmghcelohnlceaaGreatDoorRows.lean that lists a variable, with what it lists TIED to the program's text (the seventh form; the later family's looks); each row that meets fmt, with fmt's text TOLD by the authors' own Lean function (tested against real Go, not proved from fmt's source: count such statements apart). THE CARD IS WHAT COUNTS. Prove the row's statement (the work); the ties are given (YtmghcelohnlceaaGreatDoorTie.lean); close each card by the builder's one call (the guide's Derived/Test/ToyasCard.lean, 'card_holds'). Laid BY PROGRAM, IN A SANDBOX (cutbox-door.mjs). By AI agents, Wed Nov 11 2026. No macro, syntax, notation, axiom, sorry.
-/
import Derived.Test.YtmghcelohnlceaaGreatDoorRows
import GoSem.ClaimSeven
namespace Go.Proofs.YtmghcelohnlceaaGreatDoor
namespace Rows

/-- THE TIED CARD OF 'intagliolaw16.SmallAlone'. -/
def smallAloneCard : Claim7 := { stood := { row := smallAloneRow, standIns := [], harness := (true, "7f665a2d9ca7edbe44ae6586e8fbd24043c567598a55054b71a9bf47228f62d5"), looks := true }, kinds := [], alts := [], laidByText := true, laidKinds := [.handle], laidTests := true, laidLooks := .later }
def SmallAloneCardSaid : Prop := Claim7.holds Tryz.pinned (.plain (OpenSpec.ofChange smallAloneSpec)) smallAloneCard

/-- THE TIED CARD OF 'intagliolaw16.SmallFails'. -/
def smallFailsCard : Claim7 := { stood := { row := smallFailsRow, standIns := [], harness := (true, "7f665a2d9ca7edbe44ae6586e8fbd24043c567598a55054b71a9bf47228f62d5"), looks := true }, kinds := [], alts := [], laidByText := true, laidKinds := [.handle], laidTests := true, laidLooks := .later }
def SmallFailsCardSaid : Prop := Claim7.holds Tryz.pinned (.plain (OpenSpec.ofChange smallFailsSpec)) smallFailsCard

/-- THE TIED CARD OF 'intagliolaw16.SmallWhole'. -/
def smallWholeCard : Claim7 := { stood := { row := smallWholeRow, standIns := [], harness := (true, "7f665a2d9ca7edbe44ae6586e8fbd24043c567598a55054b71a9bf47228f62d5"), looks := true }, kinds := [], alts := [], laidByText := true, laidKinds := [.handle], laidTests := true, laidLooks := .later }
def SmallWholeCardSaid : Prop := Claim7.holds Tryz.pinned (.plain (OpenSpec.ofChange smallWholeSpec)) smallWholeCard

/-- THE TIED CARD OF 'intagliolaw16.SmallLast'. -/
def smallLastCard : Claim7 := { stood := { row := smallLastRow, standIns := [], harness := (true, "7f665a2d9ca7edbe44ae6586e8fbd24043c567598a55054b71a9bf47228f62d5"), looks := true }, kinds := [], alts := [], laidByText := true, laidKinds := [.handle], laidTests := true, laidLooks := .later }
def SmallLastCardSaid : Prop := Claim7.holds Tryz.pinned (.plain (OpenSpec.ofChange smallLastSpec)) smallLastCard

/-- THE TIED CARD OF 'intagliolaw16.SmallNil'. -/
def smallNilCard : Claim7 := { stood := { row := smallNilRow, standIns := [], harness := (true, "7f665a2d9ca7edbe44ae6586e8fbd24043c567598a55054b71a9bf47228f62d5"), looks := true }, kinds := [], alts := [], laidByText := true, laidKinds := [.handle], laidTests := true, laidLooks := .later }
def SmallNilCardSaid : Prop := Claim7.holds Tryz.pinned (.plain (OpenSpec.ofChange smallNilSpec)) smallNilCard

/-- THE TIED CARD OF 'intagliolaw16.SmallPlays'. -/
def smallPlaysCard : Claim7 := { stood := { row := smallPlaysRow, standIns := [], harness := (true, "7f665a2d9ca7edbe44ae6586e8fbd24043c567598a55054b71a9bf47228f62d5"), looks := true }, kinds := [], alts := [], laidByText := true, laidKinds := [.handle], laidTests := true, laidLooks := .later }
def SmallPlaysCardSaid : Prop := Claim7.holds Tryz.pinned (.plain (OpenSpec.ofChange smallPlaysSpec)) smallPlaysCard

/-- THE SECOND FORM's CARD OF 'intagliolaw16.SmallAlone'. -/
def smallAloneUptoCard : Claim7 := { stood := { row := smallAloneUptoRow, standIns := [], harness := (true, "7f665a2d9ca7edbe44ae6586e8fbd24043c567598a55054b71a9bf47228f62d5"), looks := true }, kinds := [], alts := [], laidByText := true, laidKinds := [.handle], laidTests := true, laidLooks := .later }
def SmallAloneUptoCardSaid : Prop := Claim7.holds Tryz.pinned (.plain (OpenSpec.upto smallAloneSpec)) smallAloneUptoCard

/-- THE SECOND FORM's CARD OF 'intagliolaw16.SmallFails'. -/
def smallFailsUptoCard : Claim7 := { stood := { row := smallFailsUptoRow, standIns := [], harness := (true, "7f665a2d9ca7edbe44ae6586e8fbd24043c567598a55054b71a9bf47228f62d5"), looks := true }, kinds := [], alts := [], laidByText := true, laidKinds := [.handle], laidTests := true, laidLooks := .later }
def SmallFailsUptoCardSaid : Prop := Claim7.holds Tryz.pinned (.plain (OpenSpec.upto smallFailsSpec)) smallFailsUptoCard

/-- THE SECOND FORM's CARD OF 'intagliolaw16.SmallWhole'. -/
def smallWholeUptoCard : Claim7 := { stood := { row := smallWholeUptoRow, standIns := [], harness := (true, "7f665a2d9ca7edbe44ae6586e8fbd24043c567598a55054b71a9bf47228f62d5"), looks := true }, kinds := [], alts := [], laidByText := true, laidKinds := [.handle], laidTests := true, laidLooks := .later }
def SmallWholeUptoCardSaid : Prop := Claim7.holds Tryz.pinned (.plain (OpenSpec.upto smallWholeSpec)) smallWholeUptoCard

/-- THE SECOND FORM's CARD OF 'intagliolaw16.SmallLast'. -/
def smallLastUptoCard : Claim7 := { stood := { row := smallLastUptoRow, standIns := [], harness := (true, "7f665a2d9ca7edbe44ae6586e8fbd24043c567598a55054b71a9bf47228f62d5"), looks := true }, kinds := [], alts := [], laidByText := true, laidKinds := [.handle], laidTests := true, laidLooks := .later }
def SmallLastUptoCardSaid : Prop := Claim7.holds Tryz.pinned (.plain (OpenSpec.upto smallLastSpec)) smallLastUptoCard

/-- THE SECOND FORM's CARD OF 'intagliolaw16.SmallNil'. -/
def smallNilUptoCard : Claim7 := { stood := { row := smallNilUptoRow, standIns := [], harness := (true, "7f665a2d9ca7edbe44ae6586e8fbd24043c567598a55054b71a9bf47228f62d5"), looks := true }, kinds := [], alts := [], laidByText := true, laidKinds := [.handle], laidTests := true, laidLooks := .later }
def SmallNilUptoCardSaid : Prop := Claim7.holds Tryz.pinned (.plain (OpenSpec.upto smallNilSpec)) smallNilUptoCard

/-- THE SECOND FORM's CARD OF 'intagliolaw16.SmallPlays'. -/
def smallPlaysUptoCard : Claim7 := { stood := { row := smallPlaysUptoRow, standIns := [], harness := (true, "7f665a2d9ca7edbe44ae6586e8fbd24043c567598a55054b71a9bf47228f62d5"), looks := true }, kinds := [], alts := [], laidByText := true, laidKinds := [.handle], laidTests := true, laidLooks := .later }
def SmallPlaysUptoCardSaid : Prop := Claim7.holds Tryz.pinned (.plain (OpenSpec.upto smallPlaysSpec)) smallPlaysUptoCard
end Rows
end Go.Proofs.YtmghcelohnlceaaGreatDoor
