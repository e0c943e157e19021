/-
  DERIVED. GIVEN WITH THE SEED: THE CARDS: each row of YtkkddjchkkaagaaGreatDoorRows.lean that lists a variable, with what it lists TIED to the program's text (the seventh form; the later family's looks); each row that meets fmt, with fmt's text TOLD by the authors' own Lean function (tested against real Go, not proved from fmt's source: count such statements apart). THE CARD IS WHAT COUNTS. Prove the row's statement (the work); the ties are given (YtkkddjchkkaagaaGreatDoorTie.lean); close each card by the builder's one call (the guide's Derived/Test/ToyasCard.lean, 'card_holds'). Laid BY PROGRAM, IN A SANDBOX (cutbox-door.mjs). By AI agents, Wed Nov 11 2026. No macro, syntax, notation, axiom, sorry.
-/
import Derived.Test.YtkkddjchkkaagaaGreatDoorRows
import GoSem.ClaimSeven
namespace Go.Proofs.YtkkddjchkkaagaaGreatDoor
namespace Rows

/-- THE TIED CARD OF 'intagliolaw19.FindNil'. -/
def findNilCard : Claim7 := { stood := { row := findNilRow, standIns := [], harness := (true, "b31b70625acf3c8ce6ef00a1203b25f52e804647e3d38533681a868f203541a1"), looks := true }, kinds := [], alts := [], laidByText := true, laidKinds := [.handle], laidTests := true, laidLooks := .later }
def FindNilCardSaid : Prop := Claim7.holds Tryz.pinned (.plain (OpenSpec.ofChange findNilSpec)) findNilCard

/-- THE TIED CARD OF 'intagliolaw19.FindFails'. -/
def findFailsCard : Claim7 := { stood := { row := findFailsRow, standIns := [], harness := (true, "b31b70625acf3c8ce6ef00a1203b25f52e804647e3d38533681a868f203541a1"), looks := true }, kinds := [], alts := [], laidByText := true, laidKinds := [.handle], laidTests := true, laidLooks := .later }
def FindFailsCardSaid : Prop := Claim7.holds Tryz.pinned (.plain (OpenSpec.ofChange findFailsSpec)) findFailsCard

/-- THE TIED CARD OF 'intagliolaw19.FindFinds'. -/
def findFindsCard : Claim7 := { stood := { row := findFindsRow, standIns := [], harness := (true, "b31b70625acf3c8ce6ef00a1203b25f52e804647e3d38533681a868f203541a1"), looks := true }, kinds := [], alts := [], laidByText := true, laidKinds := [.handle], laidTests := true, laidLooks := .later }
def FindFindsCardSaid : Prop := Claim7.holds Tryz.pinned (.plain (OpenSpec.ofChange findFindsSpec)) findFindsCard

/-- THE TIED CARD OF 'intagliolaw19.FindPlays'. -/
def findPlaysCard : Claim7 := { stood := { row := findPlaysRow, standIns := [], harness := (true, "b31b70625acf3c8ce6ef00a1203b25f52e804647e3d38533681a868f203541a1"), looks := true }, kinds := [], alts := [], laidByText := true, laidKinds := [.handle], laidTests := true, laidLooks := .later }
def FindPlaysCardSaid : Prop := Claim7.holds Tryz.pinned (.plain (OpenSpec.ofChange findPlaysSpec)) findPlaysCard

/-- THE TIED CARD OF 'intagliolaw20.TopicsAlone'. -/
def topicsAloneCard : Claim7 := { stood := { row := topicsAloneRow, standIns := [], harness := (true, "b31b70625acf3c8ce6ef00a1203b25f52e804647e3d38533681a868f203541a1"), looks := true }, kinds := [], alts := [], laidByText := true, laidKinds := [.handle], laidTests := true, laidLooks := .later }
def TopicsAloneCardSaid : Prop := Claim7.holds Tryz.pinned (.plain (OpenSpec.ofChange topicsAloneSpec)) topicsAloneCard

/-- THE TIED CARD OF 'intagliolaw20.TopicsOnce'. -/
def topicsOnceCard : Claim7 := { stood := { row := topicsOnceRow, standIns := [], harness := (true, "b31b70625acf3c8ce6ef00a1203b25f52e804647e3d38533681a868f203541a1"), looks := true }, kinds := [], alts := [], laidByText := true, laidKinds := [.handle], laidTests := true, laidLooks := .later }
def TopicsOnceCardSaid : Prop := Claim7.holds Tryz.pinned (.plain (OpenSpec.ofChange topicsOnceSpec)) topicsOnceCard

/-- THE TIED CARD OF 'intagliolaw20.TopicsEpochs'. -/
def topicsEpochsCard : Claim7 := { stood := { row := topicsEpochsRow, standIns := [], harness := (true, "b31b70625acf3c8ce6ef00a1203b25f52e804647e3d38533681a868f203541a1"), looks := true }, kinds := [], alts := [], laidByText := true, laidKinds := [.handle], laidTests := true, laidLooks := .later }
def TopicsEpochsCardSaid : Prop := Claim7.holds Tryz.pinned (.plain (OpenSpec.ofChange topicsEpochsSpec)) topicsEpochsCard

/-- THE TIED CARD OF 'intagliolaw20.TopicsNil'. -/
def topicsNilCard : Claim7 := { stood := { row := topicsNilRow, standIns := [], harness := (true, "b31b70625acf3c8ce6ef00a1203b25f52e804647e3d38533681a868f203541a1"), looks := true }, kinds := [], alts := [], laidByText := true, laidKinds := [.handle], laidTests := true, laidLooks := .later }
def TopicsNilCardSaid : Prop := Claim7.holds Tryz.pinned (.plain (OpenSpec.ofChange topicsNilSpec)) topicsNilCard

/-- THE TIED CARD OF 'intagliolaw20.TopicsMap'. -/
def topicsMapCard : Claim7 := { stood := { row := topicsMapRow, standIns := [], harness := (true, "b31b70625acf3c8ce6ef00a1203b25f52e804647e3d38533681a868f203541a1"), looks := true }, kinds := [], alts := [], laidByText := true, laidKinds := [.handle], laidTests := true, laidLooks := .later }
def TopicsMapCardSaid : Prop := Claim7.holds Tryz.pinned (.plain (OpenSpec.ofChange topicsMapSpec)) topicsMapCard

/-- THE TIED CARD OF 'intagliolaw20.TopicsPlay'. -/
def topicsPlayCard : Claim7 := { stood := { row := topicsPlayRow, standIns := [], harness := (true, "b31b70625acf3c8ce6ef00a1203b25f52e804647e3d38533681a868f203541a1"), looks := true }, kinds := [], alts := [], laidByText := true, laidKinds := [.handle], laidTests := true, laidLooks := .later }
def TopicsPlayCardSaid : Prop := Claim7.holds Tryz.pinned (.plain (OpenSpec.ofChange topicsPlaySpec)) topicsPlayCard

/-- THE SECOND FORM's CARD OF 'intagliolaw19.FindNil'. -/
def findNilUptoCard : Claim7 := { stood := { row := findNilUptoRow, standIns := [], harness := (true, "b31b70625acf3c8ce6ef00a1203b25f52e804647e3d38533681a868f203541a1"), looks := true }, kinds := [], alts := [], laidByText := true, laidKinds := [.handle], laidTests := true, laidLooks := .later }
def FindNilUptoCardSaid : Prop := Claim7.holds Tryz.pinned (.plain (OpenSpec.upto findNilSpec)) findNilUptoCard

/-- THE SECOND FORM's CARD OF 'intagliolaw19.FindFails'. -/
def findFailsUptoCard : Claim7 := { stood := { row := findFailsUptoRow, standIns := [], harness := (true, "b31b70625acf3c8ce6ef00a1203b25f52e804647e3d38533681a868f203541a1"), looks := true }, kinds := [], alts := [], laidByText := true, laidKinds := [.handle], laidTests := true, laidLooks := .later }
def FindFailsUptoCardSaid : Prop := Claim7.holds Tryz.pinned (.plain (OpenSpec.upto findFailsSpec)) findFailsUptoCard

/-- THE SECOND FORM's CARD OF 'intagliolaw19.FindFinds'. -/
def findFindsUptoCard : Claim7 := { stood := { row := findFindsUptoRow, standIns := [], harness := (true, "b31b70625acf3c8ce6ef00a1203b25f52e804647e3d38533681a868f203541a1"), looks := true }, kinds := [], alts := [], laidByText := true, laidKinds := [.handle], laidTests := true, laidLooks := .later }
def FindFindsUptoCardSaid : Prop := Claim7.holds Tryz.pinned (.plain (OpenSpec.upto findFindsSpec)) findFindsUptoCard

/-- THE SECOND FORM's CARD OF 'intagliolaw19.FindPlays'. -/
def findPlaysUptoCard : Claim7 := { stood := { row := findPlaysUptoRow, standIns := [], harness := (true, "b31b70625acf3c8ce6ef00a1203b25f52e804647e3d38533681a868f203541a1"), looks := true }, kinds := [], alts := [], laidByText := true, laidKinds := [.handle], laidTests := true, laidLooks := .later }
def FindPlaysUptoCardSaid : Prop := Claim7.holds Tryz.pinned (.plain (OpenSpec.upto findPlaysSpec)) findPlaysUptoCard

/-- THE SECOND FORM's CARD OF 'intagliolaw20.TopicsAlone'. -/
def topicsAloneUptoCard : Claim7 := { stood := { row := topicsAloneUptoRow, standIns := [], harness := (true, "b31b70625acf3c8ce6ef00a1203b25f52e804647e3d38533681a868f203541a1"), looks := true }, kinds := [], alts := [], laidByText := true, laidKinds := [.handle], laidTests := true, laidLooks := .later }
def TopicsAloneUptoCardSaid : Prop := Claim7.holds Tryz.pinned (.plain (OpenSpec.upto topicsAloneSpec)) topicsAloneUptoCard

/-- THE SECOND FORM's CARD OF 'intagliolaw20.TopicsOnce'. -/
def topicsOnceUptoCard : Claim7 := { stood := { row := topicsOnceUptoRow, standIns := [], harness := (true, "b31b70625acf3c8ce6ef00a1203b25f52e804647e3d38533681a868f203541a1"), looks := true }, kinds := [], alts := [], laidByText := true, laidKinds := [.handle], laidTests := true, laidLooks := .later }
def TopicsOnceUptoCardSaid : Prop := Claim7.holds Tryz.pinned (.plain (OpenSpec.upto topicsOnceSpec)) topicsOnceUptoCard

/-- THE SECOND FORM's CARD OF 'intagliolaw20.TopicsEpochs'. -/
def topicsEpochsUptoCard : Claim7 := { stood := { row := topicsEpochsUptoRow, standIns := [], harness := (true, "b31b70625acf3c8ce6ef00a1203b25f52e804647e3d38533681a868f203541a1"), looks := true }, kinds := [], alts := [], laidByText := true, laidKinds := [.handle], laidTests := true, laidLooks := .later }
def TopicsEpochsUptoCardSaid : Prop := Claim7.holds Tryz.pinned (.plain (OpenSpec.upto topicsEpochsSpec)) topicsEpochsUptoCard

/-- THE SECOND FORM's CARD OF 'intagliolaw20.TopicsNil'. -/
def topicsNilUptoCard : Claim7 := { stood := { row := topicsNilUptoRow, standIns := [], harness := (true, "b31b70625acf3c8ce6ef00a1203b25f52e804647e3d38533681a868f203541a1"), looks := true }, kinds := [], alts := [], laidByText := true, laidKinds := [.handle], laidTests := true, laidLooks := .later }
def TopicsNilUptoCardSaid : Prop := Claim7.holds Tryz.pinned (.plain (OpenSpec.upto topicsNilSpec)) topicsNilUptoCard

/-- THE SECOND FORM's CARD OF 'intagliolaw20.TopicsMap'. -/
def topicsMapUptoCard : Claim7 := { stood := { row := topicsMapUptoRow, standIns := [], harness := (true, "b31b70625acf3c8ce6ef00a1203b25f52e804647e3d38533681a868f203541a1"), looks := true }, kinds := [], alts := [], laidByText := true, laidKinds := [.handle], laidTests := true, laidLooks := .later }
def TopicsMapUptoCardSaid : Prop := Claim7.holds Tryz.pinned (.plain (OpenSpec.upto topicsMapSpec)) topicsMapUptoCard

/-- THE SECOND FORM's CARD OF 'intagliolaw20.TopicsPlay'. -/
def topicsPlayUptoCard : Claim7 := { stood := { row := topicsPlayUptoRow, standIns := [], harness := (true, "b31b70625acf3c8ce6ef00a1203b25f52e804647e3d38533681a868f203541a1"), looks := true }, kinds := [], alts := [], laidByText := true, laidKinds := [.handle], laidTests := true, laidLooks := .later }
def TopicsPlayUptoCardSaid : Prop := Claim7.holds Tryz.pinned (.plain (OpenSpec.upto topicsPlaySpec)) topicsPlayUptoCard
end Rows
end Go.Proofs.YtkkddjchkkaagaaGreatDoor
