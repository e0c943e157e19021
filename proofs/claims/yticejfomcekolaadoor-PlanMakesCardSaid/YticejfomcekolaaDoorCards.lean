/-
  DERIVED. GIVEN WITH THE SEED: THE CARDS: each row of YticejfomcekolaaDoorRows.lean that lists a variable, with what it lists TIED to the program's text (the seventh form; the later family's looks); each row that meets fmt, with fmt's text TOLD by the authors' own Lean function (tested against real Go, not proved from fmt's source: count such statements apart). THE CARD IS WHAT COUNTS. Prove the row's statement (the work); the ties are given (YticejfomcekolaaDoorTie.lean); close each card by the builder's one call (the guide's Derived/Test/ToyasCard.lean, 'card_holds'). Laid BY PROGRAM, IN A SANDBOX (cutbox-door.mjs). By AI agents, Wed Nov 11 2026. No macro, syntax, notation, axiom, sorry.
-/
import Derived.Test.YticejfomcekolaaDoorRows
import GoSem.ClaimSeven
namespace Go.Proofs.YticejfomcekolaaDoor
namespace Rows

/-- THE TIED CARD OF 'intagliolaw03.ArenaMakes'. -/
def arenaMakesCard : Claim7 := { stood := { row := arenaMakesRow, standIns := [], harness := (true, "a91f73798336260073e73776fd545a7ac79b7b1910d199c755e63d89c2d40c39"), looks := true }, kinds := [], alts := [], laidByText := true, laidKinds := [.handle], laidTests := true, laidLooks := .later }
def ArenaMakesCardSaid : Prop := Claim7.holds Tryd.pinned (.plain (OpenSpec.ofChange arenaMakesSpec)) arenaMakesCard

/-- THE TIED CARD OF 'intagliolaw03.ArenaNil'. -/
def arenaNilCard : Claim7 := { stood := { row := arenaNilRow, standIns := [], harness := (true, "a91f73798336260073e73776fd545a7ac79b7b1910d199c755e63d89c2d40c39"), looks := true }, kinds := [], alts := [], laidByText := true, laidKinds := [.handle], laidTests := true, laidLooks := .later }
def ArenaNilCardSaid : Prop := Claim7.holds Tryd.pinned (.plain (OpenSpec.ofChange arenaNilSpec)) arenaNilCard

/-- THE TIED CARD OF 'intagliolaw03.ArenaOwn'. -/
def arenaOwnCard : Claim7 := { stood := { row := arenaOwnRow, standIns := [], harness := (true, "a91f73798336260073e73776fd545a7ac79b7b1910d199c755e63d89c2d40c39"), looks := true }, kinds := [], alts := [], laidByText := true, laidKinds := [.handle], laidTests := true, laidLooks := .later }
def ArenaOwnCardSaid : Prop := Claim7.holds Tryd.pinned (.plain (OpenSpec.ofChange arenaOwnSpec)) arenaOwnCard

/-- THE TIED CARD OF 'intagliolaw04.PlanOnce'. -/
def planOnceCard : Claim7 := { stood := { row := planOnceRow, standIns := [], harness := (true, "a91f73798336260073e73776fd545a7ac79b7b1910d199c755e63d89c2d40c39"), looks := true }, kinds := [], alts := [], laidByText := true, laidKinds := [.handle], laidTests := true, laidLooks := .later }
def PlanOnceCardSaid : Prop := Claim7.holds Tryd.pinned (.plain (OpenSpec.ofChange planOnceSpec)) planOnceCard

/-- THE TIED CARD OF 'intagliolaw04.PlanTells'. -/
def planTellsCard : Claim7 := { stood := { row := planTellsRow, standIns := [], harness := (true, "a91f73798336260073e73776fd545a7ac79b7b1910d199c755e63d89c2d40c39"), looks := true }, kinds := [], alts := [], laidByText := true, laidKinds := [.handle], laidTests := true, laidLooks := .later }
def PlanTellsCardSaid : Prop := Claim7.holds Tryd.pinned (.plain (OpenSpec.ofChange planTellsSpec)) planTellsCard

/-- THE TIED CARD OF 'intagliolaw04.PlanNil'. -/
def planNilCard : Claim7 := { stood := { row := planNilRow, standIns := [], harness := (true, "a91f73798336260073e73776fd545a7ac79b7b1910d199c755e63d89c2d40c39"), looks := true }, kinds := [], alts := [], laidByText := true, laidKinds := [.handle], laidTests := true, laidLooks := .later }
def PlanNilCardSaid : Prop := Claim7.holds Tryd.pinned (.plain (OpenSpec.ofChange planNilSpec)) planNilCard

/-- THE TIED CARD OF 'intagliolaw04.PlanMakes'. -/
def planMakesCard : Claim7 := { stood := { row := planMakesRow, standIns := [], harness := (true, "a91f73798336260073e73776fd545a7ac79b7b1910d199c755e63d89c2d40c39"), looks := true }, kinds := [], alts := [], laidByText := true, laidKinds := [.handle], laidTests := true, laidLooks := .later }
def PlanMakesCardSaid : Prop := Claim7.holds Tryd.pinned (.plain (OpenSpec.ofChange planMakesSpec)) planMakesCard

/-- THE SECOND FORM's CARD OF 'intagliolaw03.ArenaMakes'. -/
def arenaMakesUptoCard : Claim7 := { stood := { row := arenaMakesUptoRow, standIns := [], harness := (true, "a91f73798336260073e73776fd545a7ac79b7b1910d199c755e63d89c2d40c39"), looks := true }, kinds := [], alts := [], laidByText := true, laidKinds := [.handle], laidTests := true, laidLooks := .later }
def ArenaMakesUptoCardSaid : Prop := Claim7.holds Tryd.pinned (.plain (OpenSpec.upto arenaMakesSpec)) arenaMakesUptoCard

/-- THE SECOND FORM's CARD OF 'intagliolaw03.ArenaNil'. -/
def arenaNilUptoCard : Claim7 := { stood := { row := arenaNilUptoRow, standIns := [], harness := (true, "a91f73798336260073e73776fd545a7ac79b7b1910d199c755e63d89c2d40c39"), looks := true }, kinds := [], alts := [], laidByText := true, laidKinds := [.handle], laidTests := true, laidLooks := .later }
def ArenaNilUptoCardSaid : Prop := Claim7.holds Tryd.pinned (.plain (OpenSpec.upto arenaNilSpec)) arenaNilUptoCard

/-- THE SECOND FORM's CARD OF 'intagliolaw03.ArenaOwn'. -/
def arenaOwnUptoCard : Claim7 := { stood := { row := arenaOwnUptoRow, standIns := [], harness := (true, "a91f73798336260073e73776fd545a7ac79b7b1910d199c755e63d89c2d40c39"), looks := true }, kinds := [], alts := [], laidByText := true, laidKinds := [.handle], laidTests := true, laidLooks := .later }
def ArenaOwnUptoCardSaid : Prop := Claim7.holds Tryd.pinned (.plain (OpenSpec.upto arenaOwnSpec)) arenaOwnUptoCard

/-- THE SECOND FORM's CARD OF 'intagliolaw04.PlanOnce'. -/
def planOnceUptoCard : Claim7 := { stood := { row := planOnceUptoRow, standIns := [], harness := (true, "a91f73798336260073e73776fd545a7ac79b7b1910d199c755e63d89c2d40c39"), looks := true }, kinds := [], alts := [], laidByText := true, laidKinds := [.handle], laidTests := true, laidLooks := .later }
def PlanOnceUptoCardSaid : Prop := Claim7.holds Tryd.pinned (.plain (OpenSpec.upto planOnceSpec)) planOnceUptoCard

/-- THE SECOND FORM's CARD OF 'intagliolaw04.PlanTells'. -/
def planTellsUptoCard : Claim7 := { stood := { row := planTellsUptoRow, standIns := [], harness := (true, "a91f73798336260073e73776fd545a7ac79b7b1910d199c755e63d89c2d40c39"), looks := true }, kinds := [], alts := [], laidByText := true, laidKinds := [.handle], laidTests := true, laidLooks := .later }
def PlanTellsUptoCardSaid : Prop := Claim7.holds Tryd.pinned (.plain (OpenSpec.upto planTellsSpec)) planTellsUptoCard

/-- THE SECOND FORM's CARD OF 'intagliolaw04.PlanNil'. -/
def planNilUptoCard : Claim7 := { stood := { row := planNilUptoRow, standIns := [], harness := (true, "a91f73798336260073e73776fd545a7ac79b7b1910d199c755e63d89c2d40c39"), looks := true }, kinds := [], alts := [], laidByText := true, laidKinds := [.handle], laidTests := true, laidLooks := .later }
def PlanNilUptoCardSaid : Prop := Claim7.holds Tryd.pinned (.plain (OpenSpec.upto planNilSpec)) planNilUptoCard

/-- THE SECOND FORM's CARD OF 'intagliolaw04.PlanMakes'. -/
def planMakesUptoCard : Claim7 := { stood := { row := planMakesUptoRow, standIns := [], harness := (true, "a91f73798336260073e73776fd545a7ac79b7b1910d199c755e63d89c2d40c39"), looks := true }, kinds := [], alts := [], laidByText := true, laidKinds := [.handle], laidTests := true, laidLooks := .later }
def PlanMakesUptoCardSaid : Prop := Claim7.holds Tryd.pinned (.plain (OpenSpec.upto planMakesSpec)) planMakesUptoCard
end Rows
end Go.Proofs.YticejfomcekolaaDoor
