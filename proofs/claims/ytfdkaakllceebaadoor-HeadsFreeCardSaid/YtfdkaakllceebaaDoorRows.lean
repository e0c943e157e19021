/-
  NARROWER THAN 'FOR EVERY INPUT', by the rows' own cells (each row's printed sentence says how): HeadsOnce: laid · HeadsTell: laid · HeadsTurn: laid · HeadsFree: laid · HeadsList: laid.
  DERIVED. THE GIVEN ROWS OF THIS SEAT. 5 by the template 'for every input the law returns true; each argument reads behind the call as it read before'; 0 by the template 'total and deterministic' (their statements: YtfdkaakllceebaaDoorTotals.lean).
  GIVEN WITH THE SEED: the statements are not yours to turn. If you find one false, say at which input.
  Laid BY PROGRAM, IN A SANDBOX (cutbox-rows.mjs): the forced cells as the released guide's own fill.sh prints them over the translation 4fd4fbec2f6543cc… (all of the seat's roots in one cut). By AI agents, Wed Nov 11 2026. No macro, syntax, notation, axiom, sorry.
-/
import Derived.Test.YtfdkaakllceebaaDoorChecked
import GoSem.Claim
import GoSem.ClaimJoined
import GoSem.ClaimMapViews
import Derived.JoinedTies
import Derived.KernelRfl
namespace Go.Proofs.YtfdkaakllceebaaDoor
/- THE CELL 'sum', in the pinned program and in every row, IS THE sha256 OF THE DUMP (.gsa) THAT YtfdkaakllceebaaDoorProg.lean LOADS. Nothing in Lean hashes anything: it is a label: what it is worth is what the hold of that sum in a sandbox is worth. -/
noncomputable def Tryd.pinned : Pinned := { name := "ytfdkaakllceebaadoor", sum := "4fd4fbec2f6543cc2f02043c9a5372d634163839fa5895374e14f421278a9026", checked := Tryd.checked }
namespace Rows
def none {H : Type} : Left H := { results := [], args := [] }

/- WHAT THE LISTED PACKAGE-LEVEL VARIABLES READ AS WHEN THE CALL BEGINS. Each datum BY PROGRAM (the guide's laid-datum.mjs) off the statement by which the dump's own 'gosem.cut.vars' lays the variable. In a bare row this is a premise. The card (YtfdkaakllceebaaDoorCards.lean) ties it to the program's text. -/
def laid_errors_errorType {H : Type} : DataW H := .iface "internal/reflectlite.rtype" (.agg [.ptr (.lit (.string [101, 114, 114, 111, 114]))])

/-- 'intagliolaw10.HeadsOnce': WHATEVER THE INPUT: true; the input reads as it did. -/
def headsOnceSpec : ChangeSpec := { name := "headsOnce", fn := fun _ => fun
  | [d1, d2] => { results := [.lit (.bool true)], args := [d1, d2] }
  | _ => none }
def headsOnceRow : OpenClaim := { program := "ytfdkaakllceebaadoor", sum := "4fd4fbec2f6543cc2f02043c9a5372d634163839fa5895374e14f421278a9026", func := "intaglio/intagliolaw10.HeadsOnce", spec := "headsOnce", inPlace := ["internal/reflectlite.ValueOf", "(internal/reflectlite.Value).Type", "(internal/reflectlite.Value).IsNil", "internal/reflectlite.TypeOf", "(internal/reflectlite.Value).Elem", "(internal/reflectlite.Value).Set"], unfollowed := true, recurses := true, named := ["errors.errorType"], apart := false, laid := [("errors.errorType", laid_errors_errorType)] }
def HeadsOnceSaid : Prop := headsOnceRow.holds Tryd.pinned (OpenSpec.ofChange headsOnceSpec)

/-- ITS FALSE NEIGHBOUR: 'it returns false'. Refute it at one input. -/
def headsOnceWrong : ChangeSpec := { name := "headsOnce", fn := fun _ => fun
  | [d1, d2] => { results := [.lit (.bool false)], args := [d1, d2] }
  | _ => none }
def HeadsOnceWrongFalsely : Prop := headsOnceRow.holds Tryd.pinned (OpenSpec.ofChange headsOnceWrong)

/-- 'intagliolaw10.HeadsTell': WHATEVER THE INPUT: true; the input reads as it did. -/
def headsTellSpec : ChangeSpec := { name := "headsTell", fn := fun _ => fun
  | [d1, d2, d3] => { results := [.lit (.bool true)], args := [d1, d2, d3] }
  | _ => none }
def headsTellRow : OpenClaim := { program := "ytfdkaakllceebaadoor", sum := "4fd4fbec2f6543cc2f02043c9a5372d634163839fa5895374e14f421278a9026", func := "intaglio/intagliolaw10.HeadsTell", spec := "headsTell", inPlace := ["internal/reflectlite.ValueOf", "(internal/reflectlite.Value).Type", "(internal/reflectlite.Value).IsNil", "internal/reflectlite.TypeOf", "(internal/reflectlite.Value).Elem", "(internal/reflectlite.Value).Set"], unfollowed := true, recurses := true, named := ["errors.errorType"], apart := false, laid := [("errors.errorType", laid_errors_errorType)] }
def HeadsTellSaid : Prop := headsTellRow.holds Tryd.pinned (OpenSpec.ofChange headsTellSpec)

/-- ITS FALSE NEIGHBOUR: 'it returns false'. Refute it at one input. -/
def headsTellWrong : ChangeSpec := { name := "headsTell", fn := fun _ => fun
  | [d1, d2, d3] => { results := [.lit (.bool false)], args := [d1, d2, d3] }
  | _ => none }
def HeadsTellWrongFalsely : Prop := headsTellRow.holds Tryd.pinned (OpenSpec.ofChange headsTellWrong)

/-- 'intagliolaw10.HeadsTurn': WHATEVER THE INPUT: true; the input reads as it did. -/
def headsTurnSpec : ChangeSpec := { name := "headsTurn", fn := fun _ => fun
  | [d1, d2] => { results := [.lit (.bool true)], args := [d1, d2] }
  | _ => none }
def headsTurnRow : OpenClaim := { program := "ytfdkaakllceebaadoor", sum := "4fd4fbec2f6543cc2f02043c9a5372d634163839fa5895374e14f421278a9026", func := "intaglio/intagliolaw10.HeadsTurn", spec := "headsTurn", inPlace := ["internal/reflectlite.ValueOf", "(internal/reflectlite.Value).Type", "(internal/reflectlite.Value).IsNil", "internal/reflectlite.TypeOf", "(internal/reflectlite.Value).Elem", "(internal/reflectlite.Value).Set"], unfollowed := true, recurses := true, named := ["errors.errorType"], apart := false, laid := [("errors.errorType", laid_errors_errorType)] }
def HeadsTurnSaid : Prop := headsTurnRow.holds Tryd.pinned (OpenSpec.ofChange headsTurnSpec)

/-- ITS FALSE NEIGHBOUR: 'it returns false'. Refute it at one input. -/
def headsTurnWrong : ChangeSpec := { name := "headsTurn", fn := fun _ => fun
  | [d1, d2] => { results := [.lit (.bool false)], args := [d1, d2] }
  | _ => none }
def HeadsTurnWrongFalsely : Prop := headsTurnRow.holds Tryd.pinned (OpenSpec.ofChange headsTurnWrong)

/-- 'intagliolaw10.HeadsFree': WHATEVER THE INPUT: true; the input reads as it did. -/
def headsFreeSpec : ChangeSpec := { name := "headsFree", fn := fun _ => fun
  | [d1, d2] => { results := [.lit (.bool true)], args := [d1, d2] }
  | _ => none }
def headsFreeRow : OpenClaim := { program := "ytfdkaakllceebaadoor", sum := "4fd4fbec2f6543cc2f02043c9a5372d634163839fa5895374e14f421278a9026", func := "intaglio/intagliolaw10.HeadsFree", spec := "headsFree", inPlace := ["internal/reflectlite.ValueOf", "(internal/reflectlite.Value).Type", "(internal/reflectlite.Value).IsNil", "internal/reflectlite.TypeOf", "(internal/reflectlite.Value).Elem", "(internal/reflectlite.Value).Set"], unfollowed := true, recurses := true, named := ["errors.errorType"], apart := false, laid := [("errors.errorType", laid_errors_errorType)] }
def HeadsFreeSaid : Prop := headsFreeRow.holds Tryd.pinned (OpenSpec.ofChange headsFreeSpec)

/-- ITS FALSE NEIGHBOUR: 'it returns false'. Refute it at one input. -/
def headsFreeWrong : ChangeSpec := { name := "headsFree", fn := fun _ => fun
  | [d1, d2] => { results := [.lit (.bool false)], args := [d1, d2] }
  | _ => none }
def HeadsFreeWrongFalsely : Prop := headsFreeRow.holds Tryd.pinned (OpenSpec.ofChange headsFreeWrong)

/-- 'intagliolaw10.HeadsList': WHATEVER THE INPUT: true; the input reads as it did. -/
def headsListSpec : ChangeSpec := { name := "headsList", fn := fun _ => fun
  | [d1, d2, d3] => { results := [.lit (.bool true)], args := [d1, d2, d3] }
  | _ => none }
def headsListRow : OpenClaim := { program := "ytfdkaakllceebaadoor", sum := "4fd4fbec2f6543cc2f02043c9a5372d634163839fa5895374e14f421278a9026", func := "intaglio/intagliolaw10.HeadsList", spec := "headsList", inPlace := ["internal/reflectlite.ValueOf", "(internal/reflectlite.Value).Type", "(internal/reflectlite.Value).IsNil", "internal/reflectlite.TypeOf", "(internal/reflectlite.Value).Elem", "(internal/reflectlite.Value).Set"], unfollowed := true, recurses := true, named := ["errors.errorType"], apart := false, laid := [("errors.errorType", laid_errors_errorType)] }
def HeadsListSaid : Prop := headsListRow.holds Tryd.pinned (OpenSpec.ofChange headsListSpec)

/-- ITS FALSE NEIGHBOUR: 'it returns false'. Refute it at one input. -/
def headsListWrong : ChangeSpec := { name := "headsList", fn := fun _ => fun
  | [d1, d2, d3] => { results := [.lit (.bool false)], args := [d1, d2, d3] }
  | _ => none }
def HeadsListWrongFalsely : Prop := headsListRow.holds Tryd.pinned (OpenSpec.ofChange headsListWrong)

/- THE SECOND FORM. 'bulk': how many values and letters a reading holds, each counted each time it is reached (what is shared counts as often as it is met; a slice's spare places count too). A statement '..UptoSaid' is the law's where the arguments, and the package variables that the reading takes, are together of bulk at most 1048576: NARROWER than '..Said'. Prove '..Said' where nothing that the law and all that it calls make is longer than what came in: it says more and counts as full. Else prove '..UptoSaid'. A law counts once. -/
mutual
def uptoBulk {H : Type} : DataW H → Nat
  | .lit (.string bytes) => bytes.length + 1
  | .lit _ => 1
  | .nil => 1
  | .ptr d => uptoBulk d + 1
  | .slice elems spare => uptoBulkAll elems + uptoBulkAll spare + 1
  | .agg parts => uptoBulkAll parts + 1
  | .iface _ d => uptoBulk d + 1
  | .map entries => uptoBulkEntries entries + 1
  | .held _ => 1
def uptoBulkAll {H : Type} : List (DataW H) → Nat
  | [] => 0
  | d :: r => uptoBulk d + uptoBulkAll r
def uptoBulkEntries {H : Type} : List (Lit × DataW H) → Nat
  | [] => 0
  | x :: r => uptoBulkEntry x + uptoBulkEntries r
def uptoBulkEntry {H : Type} : Lit × DataW H → Nat
  | (.string bytes, d) => bytes.length + uptoBulk d + 1
  | (_, d) => uptoBulk d + 1
 end
def uptoSmall : (H : Type) → List (DataW H) → Bool := fun _ ds => decide (uptoBulkAll ds ≤ 1048576)
def OpenSpec.upto (s : _root_.Go.ChangeSpec) : _root_.Go.OpenSpec := { _root_.Go.OpenSpec.ofChange s with cond := some uptoSmall }

/-- 'intagliolaw10.HeadsOnce', WHERE WHAT IT READS IS OF BULK AT MOST 1048576: true; the input reads as it did. -/
def headsOnceUptoRow : OpenClaim := { program := "ytfdkaakllceebaadoor", sum := "4fd4fbec2f6543cc2f02043c9a5372d634163839fa5895374e14f421278a9026", func := "intaglio/intagliolaw10.HeadsOnce", spec := "headsOnce", inPlace := ["internal/reflectlite.ValueOf", "(internal/reflectlite.Value).Type", "(internal/reflectlite.Value).IsNil", "internal/reflectlite.TypeOf", "(internal/reflectlite.Value).Elem", "(internal/reflectlite.Value).Set"], unfollowed := true, recurses := true, named := ["errors.errorType"], apart := false, laid := [("errors.errorType", laid_errors_errorType)], narrowed := true }
def HeadsOnceUptoSaid : Prop := headsOnceUptoRow.holds Tryd.pinned (OpenSpec.upto headsOnceSpec)

/-- 'intagliolaw10.HeadsTell', WHERE WHAT IT READS IS OF BULK AT MOST 1048576: true; the input reads as it did. -/
def headsTellUptoRow : OpenClaim := { program := "ytfdkaakllceebaadoor", sum := "4fd4fbec2f6543cc2f02043c9a5372d634163839fa5895374e14f421278a9026", func := "intaglio/intagliolaw10.HeadsTell", spec := "headsTell", inPlace := ["internal/reflectlite.ValueOf", "(internal/reflectlite.Value).Type", "(internal/reflectlite.Value).IsNil", "internal/reflectlite.TypeOf", "(internal/reflectlite.Value).Elem", "(internal/reflectlite.Value).Set"], unfollowed := true, recurses := true, named := ["errors.errorType"], apart := false, laid := [("errors.errorType", laid_errors_errorType)], narrowed := true }
def HeadsTellUptoSaid : Prop := headsTellUptoRow.holds Tryd.pinned (OpenSpec.upto headsTellSpec)

/-- 'intagliolaw10.HeadsTurn', WHERE WHAT IT READS IS OF BULK AT MOST 1048576: true; the input reads as it did. -/
def headsTurnUptoRow : OpenClaim := { program := "ytfdkaakllceebaadoor", sum := "4fd4fbec2f6543cc2f02043c9a5372d634163839fa5895374e14f421278a9026", func := "intaglio/intagliolaw10.HeadsTurn", spec := "headsTurn", inPlace := ["internal/reflectlite.ValueOf", "(internal/reflectlite.Value).Type", "(internal/reflectlite.Value).IsNil", "internal/reflectlite.TypeOf", "(internal/reflectlite.Value).Elem", "(internal/reflectlite.Value).Set"], unfollowed := true, recurses := true, named := ["errors.errorType"], apart := false, laid := [("errors.errorType", laid_errors_errorType)], narrowed := true }
def HeadsTurnUptoSaid : Prop := headsTurnUptoRow.holds Tryd.pinned (OpenSpec.upto headsTurnSpec)

/-- 'intagliolaw10.HeadsFree', WHERE WHAT IT READS IS OF BULK AT MOST 1048576: true; the input reads as it did. -/
def headsFreeUptoRow : OpenClaim := { program := "ytfdkaakllceebaadoor", sum := "4fd4fbec2f6543cc2f02043c9a5372d634163839fa5895374e14f421278a9026", func := "intaglio/intagliolaw10.HeadsFree", spec := "headsFree", inPlace := ["internal/reflectlite.ValueOf", "(internal/reflectlite.Value).Type", "(internal/reflectlite.Value).IsNil", "internal/reflectlite.TypeOf", "(internal/reflectlite.Value).Elem", "(internal/reflectlite.Value).Set"], unfollowed := true, recurses := true, named := ["errors.errorType"], apart := false, laid := [("errors.errorType", laid_errors_errorType)], narrowed := true }
def HeadsFreeUptoSaid : Prop := headsFreeUptoRow.holds Tryd.pinned (OpenSpec.upto headsFreeSpec)

/-- 'intagliolaw10.HeadsList', WHERE WHAT IT READS IS OF BULK AT MOST 1048576: true; the input reads as it did. -/
def headsListUptoRow : OpenClaim := { program := "ytfdkaakllceebaadoor", sum := "4fd4fbec2f6543cc2f02043c9a5372d634163839fa5895374e14f421278a9026", func := "intaglio/intagliolaw10.HeadsList", spec := "headsList", inPlace := ["internal/reflectlite.ValueOf", "(internal/reflectlite.Value).Type", "(internal/reflectlite.Value).IsNil", "internal/reflectlite.TypeOf", "(internal/reflectlite.Value).Elem", "(internal/reflectlite.Value).Set"], unfollowed := true, recurses := true, named := ["errors.errorType"], apart := false, laid := [("errors.errorType", laid_errors_errorType)], narrowed := true }
def HeadsListUptoSaid : Prop := headsListUptoRow.holds Tryd.pinned (OpenSpec.upto headsListSpec)

end Rows
end Go.Proofs.YtfdkaakllceebaaDoor
