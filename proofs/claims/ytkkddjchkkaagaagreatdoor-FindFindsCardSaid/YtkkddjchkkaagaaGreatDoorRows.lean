/-
  NARROWER THAN 'FOR EVERY INPUT', by the rows' own cells (each row's printed sentence says how): FindNil: laid · FindFails: laid · FindFinds: laid · FindPlays: laid · TopicsAlone: laid · TopicsOnce: laid · TopicsEpochs: laid · TopicsNil: laid · TopicsMap: laid · TopicsPlay: laid.
  DERIVED. THE GIVEN ROWS OF THIS SEAT. 10 by the template 'for every input the law returns true; each argument reads behind the call as it read before'; 0 by the template 'total and deterministic' (their statements: YtkkddjchkkaagaaGreatDoorTotals.lean).
  GIVEN WITH THE SEED: the statements are not yours to turn. If you find one false, say at which input.
  Laid BY PROGRAM, IN A SANDBOX (cutbox-rows.mjs): the forced cells as the released guide's own fill.sh prints them over the translation e693d09c72559264… (all of the seat's roots in one cut). By AI agents, Wed Nov 11 2026. No macro, syntax, notation, axiom, sorry.
-/
import Derived.Test.YtkkddjchkkaagaaGreatDoorChecked
import GoSem.Claim
import GoSem.ClaimJoined
import GoSem.ClaimMapViews
import Derived.JoinedTies
import Derived.KernelRfl
namespace Go.Proofs.YtkkddjchkkaagaaGreatDoor
/- THE CELL 'sum', in the pinned program and in every row, IS THE sha256 OF THE DUMP (.gsa) THAT YtkkddjchkkaagaaGreatDoorProg.lean LOADS. Nothing in Lean hashes anything: it is a label: what it is worth is what the hold of that sum in a sandbox is worth. -/
noncomputable def Tryz.pinned : Pinned := { name := "ytkkddjchkkaagaagreatdoor", sum := "e693d09c725592648547d258cab9829c6773e86f9a69144fc851016c0cb97b0d", checked := Tryz.checked }
namespace Rows
def none {H : Type} : Left H := { results := [], args := [] }

/- WHAT THE LISTED PACKAGE-LEVEL VARIABLES READ AS WHEN THE CALL BEGINS. Each datum BY PROGRAM (the guide's laid-datum.mjs) off the statement by which the dump's own 'gosem.cut.vars' lays the variable. In a bare row this is a premise. The card (YtkkddjchkkaagaaGreatDoorCards.lean) ties it to the program's text. -/
def laid_errors_errorType {H : Type} : DataW H := .iface "internal/reflectlite.rtype" (.agg [.ptr (.lit (.string [101, 114, 114, 111, 114]))])

/-- 'intagliolaw19.FindNil': WHATEVER THE INPUT: true; the input reads as it did. -/
def findNilSpec : ChangeSpec := { name := "findNil", fn := fun _ => fun
  | [d] => { results := [.lit (.bool true)], args := [d] }
  | _ => none }
def findNilRow : OpenClaim := { program := "ytkkddjchkkaagaagreatdoor", sum := "e693d09c725592648547d258cab9829c6773e86f9a69144fc851016c0cb97b0d", func := "intaglio/intagliolaw19.FindNil", spec := "findNil", inPlace := ["internal/reflectlite.ValueOf", "(internal/reflectlite.Value).Type", "(internal/reflectlite.Value).IsNil", "internal/reflectlite.TypeOf", "(internal/reflectlite.Value).Elem", "(internal/reflectlite.Value).Set", "sync/atomic.AddInt64", "sync/atomic.LoadInt64"], unfollowed := true, recurses := true, named := ["errors.errorType"], apart := false, laid := [("errors.errorType", laid_errors_errorType)] }
def FindNilSaid : Prop := findNilRow.holds Tryz.pinned (OpenSpec.ofChange findNilSpec)

/-- ITS FALSE NEIGHBOUR: 'it returns false'. Refute it at one input. -/
def findNilWrong : ChangeSpec := { name := "findNil", fn := fun _ => fun
  | [d] => { results := [.lit (.bool false)], args := [d] }
  | _ => none }
def FindNilWrongFalsely : Prop := findNilRow.holds Tryz.pinned (OpenSpec.ofChange findNilWrong)

/-- 'intagliolaw19.FindFails': WHATEVER THE INPUT: true; the input reads as it did. -/
def findFailsSpec : ChangeSpec := { name := "findFails", fn := fun _ => fun
  | [d1, d2, d3] => { results := [.lit (.bool true)], args := [d1, d2, d3] }
  | _ => none }
def findFailsRow : OpenClaim := { program := "ytkkddjchkkaagaagreatdoor", sum := "e693d09c725592648547d258cab9829c6773e86f9a69144fc851016c0cb97b0d", func := "intaglio/intagliolaw19.FindFails", spec := "findFails", inPlace := ["sync/atomic.AddInt64", "sync/atomic.LoadInt64", "internal/reflectlite.ValueOf", "(internal/reflectlite.Value).Type", "(internal/reflectlite.Value).IsNil", "internal/reflectlite.TypeOf", "(internal/reflectlite.Value).Elem", "(internal/reflectlite.Value).Set"], unfollowed := true, recurses := true, named := ["errors.errorType"], apart := false, laid := [("errors.errorType", laid_errors_errorType)] }
def FindFailsSaid : Prop := findFailsRow.holds Tryz.pinned (OpenSpec.ofChange findFailsSpec)

/-- ITS FALSE NEIGHBOUR: 'it returns false'. Refute it at one input. -/
def findFailsWrong : ChangeSpec := { name := "findFails", fn := fun _ => fun
  | [d1, d2, d3] => { results := [.lit (.bool false)], args := [d1, d2, d3] }
  | _ => none }
def FindFailsWrongFalsely : Prop := findFailsRow.holds Tryz.pinned (OpenSpec.ofChange findFailsWrong)

/-- 'intagliolaw19.FindFinds': WHATEVER THE INPUT: true; the input reads as it did. -/
def findFindsSpec : ChangeSpec := { name := "findFinds", fn := fun _ => fun
  | [d1, d2, d3] => { results := [.lit (.bool true)], args := [d1, d2, d3] }
  | _ => none }
def findFindsRow : OpenClaim := { program := "ytkkddjchkkaagaagreatdoor", sum := "e693d09c725592648547d258cab9829c6773e86f9a69144fc851016c0cb97b0d", func := "intaglio/intagliolaw19.FindFinds", spec := "findFinds", inPlace := ["sync/atomic.AddInt64", "sync/atomic.LoadInt64", "internal/reflectlite.ValueOf", "(internal/reflectlite.Value).Type", "(internal/reflectlite.Value).IsNil", "internal/reflectlite.TypeOf", "(internal/reflectlite.Value).Elem", "(internal/reflectlite.Value).Set"], unfollowed := true, recurses := true, named := ["errors.errorType"], apart := false, laid := [("errors.errorType", laid_errors_errorType)] }
def FindFindsSaid : Prop := findFindsRow.holds Tryz.pinned (OpenSpec.ofChange findFindsSpec)

/-- ITS FALSE NEIGHBOUR: 'it returns false'. Refute it at one input. -/
def findFindsWrong : ChangeSpec := { name := "findFinds", fn := fun _ => fun
  | [d1, d2, d3] => { results := [.lit (.bool false)], args := [d1, d2, d3] }
  | _ => none }
def FindFindsWrongFalsely : Prop := findFindsRow.holds Tryz.pinned (OpenSpec.ofChange findFindsWrong)

/-- 'intagliolaw19.FindPlays': WHATEVER THE INPUT: true; the input reads as it did. -/
def findPlaysSpec : ChangeSpec := { name := "findPlays", fn := fun _ => fun
  | [d1, d2, d3] => { results := [.lit (.bool true)], args := [d1, d2, d3] }
  | _ => none }
def findPlaysRow : OpenClaim := { program := "ytkkddjchkkaagaagreatdoor", sum := "e693d09c725592648547d258cab9829c6773e86f9a69144fc851016c0cb97b0d", func := "intaglio/intagliolaw19.FindPlays", spec := "findPlays", inPlace := ["sync/atomic.AddInt64", "sync/atomic.LoadInt64", "internal/reflectlite.ValueOf", "(internal/reflectlite.Value).Type", "(internal/reflectlite.Value).IsNil", "internal/reflectlite.TypeOf", "(internal/reflectlite.Value).Elem", "(internal/reflectlite.Value).Set"], unfollowed := true, recurses := true, named := ["errors.errorType"], apart := false, laid := [("errors.errorType", laid_errors_errorType)] }
def FindPlaysSaid : Prop := findPlaysRow.holds Tryz.pinned (OpenSpec.ofChange findPlaysSpec)

/-- ITS FALSE NEIGHBOUR: 'it returns false'. Refute it at one input. -/
def findPlaysWrong : ChangeSpec := { name := "findPlays", fn := fun _ => fun
  | [d1, d2, d3] => { results := [.lit (.bool false)], args := [d1, d2, d3] }
  | _ => none }
def FindPlaysWrongFalsely : Prop := findPlaysRow.holds Tryz.pinned (OpenSpec.ofChange findPlaysWrong)

/-- 'intagliolaw20.TopicsAlone': WHATEVER THE INPUT: true; the input reads as it did. -/
def topicsAloneSpec : ChangeSpec := { name := "topicsAlone", fn := fun _ => fun
  | [d1, d2, d3] => { results := [.lit (.bool true)], args := [d1, d2, d3] }
  | _ => none }
def topicsAloneRow : OpenClaim := { program := "ytkkddjchkkaagaagreatdoor", sum := "e693d09c725592648547d258cab9829c6773e86f9a69144fc851016c0cb97b0d", func := "intaglio/intagliolaw20.TopicsAlone", spec := "topicsAlone", inPlace := ["sync/atomic.AddInt64", "sync/atomic.LoadInt64", "internal/reflectlite.ValueOf", "(internal/reflectlite.Value).Type", "(internal/reflectlite.Value).IsNil", "internal/reflectlite.TypeOf", "(internal/reflectlite.Value).Elem", "(internal/reflectlite.Value).Set"], unfollowed := true, recurses := true, named := ["errors.errorType"], apart := false, laid := [("errors.errorType", laid_errors_errorType)] }
def TopicsAloneSaid : Prop := topicsAloneRow.holds Tryz.pinned (OpenSpec.ofChange topicsAloneSpec)

/-- ITS FALSE NEIGHBOUR: 'it returns false'. Refute it at one input. -/
def topicsAloneWrong : ChangeSpec := { name := "topicsAlone", fn := fun _ => fun
  | [d1, d2, d3] => { results := [.lit (.bool false)], args := [d1, d2, d3] }
  | _ => none }
def TopicsAloneWrongFalsely : Prop := topicsAloneRow.holds Tryz.pinned (OpenSpec.ofChange topicsAloneWrong)

/-- 'intagliolaw20.TopicsOnce': WHATEVER THE INPUT: true; the input reads as it did. -/
def topicsOnceSpec : ChangeSpec := { name := "topicsOnce", fn := fun _ => fun
  | [d1, d2] => { results := [.lit (.bool true)], args := [d1, d2] }
  | _ => none }
def topicsOnceRow : OpenClaim := { program := "ytkkddjchkkaagaagreatdoor", sum := "e693d09c725592648547d258cab9829c6773e86f9a69144fc851016c0cb97b0d", func := "intaglio/intagliolaw20.TopicsOnce", spec := "topicsOnce", inPlace := ["sync/atomic.AddInt64", "sync/atomic.LoadInt64", "internal/reflectlite.ValueOf", "(internal/reflectlite.Value).Type", "(internal/reflectlite.Value).IsNil", "internal/reflectlite.TypeOf", "(internal/reflectlite.Value).Elem", "(internal/reflectlite.Value).Set"], unfollowed := true, recurses := true, named := ["errors.errorType"], apart := false, laid := [("errors.errorType", laid_errors_errorType)] }
def TopicsOnceSaid : Prop := topicsOnceRow.holds Tryz.pinned (OpenSpec.ofChange topicsOnceSpec)

/-- ITS FALSE NEIGHBOUR: 'it returns false'. Refute it at one input. -/
def topicsOnceWrong : ChangeSpec := { name := "topicsOnce", fn := fun _ => fun
  | [d1, d2] => { results := [.lit (.bool false)], args := [d1, d2] }
  | _ => none }
def TopicsOnceWrongFalsely : Prop := topicsOnceRow.holds Tryz.pinned (OpenSpec.ofChange topicsOnceWrong)

/-- 'intagliolaw20.TopicsEpochs': WHATEVER THE INPUT: true; the input reads as it did. -/
def topicsEpochsSpec : ChangeSpec := { name := "topicsEpochs", fn := fun _ => fun
  | [d1, d2] => { results := [.lit (.bool true)], args := [d1, d2] }
  | _ => none }
def topicsEpochsRow : OpenClaim := { program := "ytkkddjchkkaagaagreatdoor", sum := "e693d09c725592648547d258cab9829c6773e86f9a69144fc851016c0cb97b0d", func := "intaglio/intagliolaw20.TopicsEpochs", spec := "topicsEpochs", inPlace := ["sync/atomic.AddInt64", "sync/atomic.LoadInt64", "internal/reflectlite.ValueOf", "(internal/reflectlite.Value).Type", "(internal/reflectlite.Value).IsNil", "internal/reflectlite.TypeOf", "(internal/reflectlite.Value).Elem", "(internal/reflectlite.Value).Set"], unfollowed := true, recurses := true, named := ["errors.errorType"], apart := false, laid := [("errors.errorType", laid_errors_errorType)] }
def TopicsEpochsSaid : Prop := topicsEpochsRow.holds Tryz.pinned (OpenSpec.ofChange topicsEpochsSpec)

/-- ITS FALSE NEIGHBOUR: 'it returns false'. Refute it at one input. -/
def topicsEpochsWrong : ChangeSpec := { name := "topicsEpochs", fn := fun _ => fun
  | [d1, d2] => { results := [.lit (.bool false)], args := [d1, d2] }
  | _ => none }
def TopicsEpochsWrongFalsely : Prop := topicsEpochsRow.holds Tryz.pinned (OpenSpec.ofChange topicsEpochsWrong)

/-- 'intagliolaw20.TopicsNil': WHATEVER THE INPUT: true; the input reads as it did. -/
def topicsNilSpec : ChangeSpec := { name := "topicsNil", fn := fun _ => fun
  | [d] => { results := [.lit (.bool true)], args := [d] }
  | _ => none }
def topicsNilRow : OpenClaim := { program := "ytkkddjchkkaagaagreatdoor", sum := "e693d09c725592648547d258cab9829c6773e86f9a69144fc851016c0cb97b0d", func := "intaglio/intagliolaw20.TopicsNil", spec := "topicsNil", inPlace := ["sync/atomic.AddInt64", "sync/atomic.LoadInt64", "internal/reflectlite.ValueOf", "(internal/reflectlite.Value).Type", "(internal/reflectlite.Value).IsNil", "internal/reflectlite.TypeOf", "(internal/reflectlite.Value).Elem", "(internal/reflectlite.Value).Set"], unfollowed := true, recurses := true, named := ["errors.errorType"], apart := false, laid := [("errors.errorType", laid_errors_errorType)] }
def TopicsNilSaid : Prop := topicsNilRow.holds Tryz.pinned (OpenSpec.ofChange topicsNilSpec)

/-- ITS FALSE NEIGHBOUR: 'it returns false'. Refute it at one input. -/
def topicsNilWrong : ChangeSpec := { name := "topicsNil", fn := fun _ => fun
  | [d] => { results := [.lit (.bool false)], args := [d] }
  | _ => none }
def TopicsNilWrongFalsely : Prop := topicsNilRow.holds Tryz.pinned (OpenSpec.ofChange topicsNilWrong)

/-- 'intagliolaw20.TopicsMap': WHATEVER THE INPUT: true; the input reads as it did. -/
def topicsMapSpec : ChangeSpec := { name := "topicsMap", fn := fun _ => fun
  | [d1, d2] => { results := [.lit (.bool true)], args := [d1, d2] }
  | _ => none }
def topicsMapRow : OpenClaim := { program := "ytkkddjchkkaagaagreatdoor", sum := "e693d09c725592648547d258cab9829c6773e86f9a69144fc851016c0cb97b0d", func := "intaglio/intagliolaw20.TopicsMap", spec := "topicsMap", inPlace := ["sync/atomic.AddInt64", "sync/atomic.LoadInt64", "internal/reflectlite.ValueOf", "(internal/reflectlite.Value).Type", "(internal/reflectlite.Value).IsNil", "internal/reflectlite.TypeOf", "(internal/reflectlite.Value).Elem", "(internal/reflectlite.Value).Set"], unfollowed := true, recurses := true, named := ["errors.errorType"], apart := false, laid := [("errors.errorType", laid_errors_errorType)] }
def TopicsMapSaid : Prop := topicsMapRow.holds Tryz.pinned (OpenSpec.ofChange topicsMapSpec)

/-- ITS FALSE NEIGHBOUR: 'it returns false'. Refute it at one input. -/
def topicsMapWrong : ChangeSpec := { name := "topicsMap", fn := fun _ => fun
  | [d1, d2] => { results := [.lit (.bool false)], args := [d1, d2] }
  | _ => none }
def TopicsMapWrongFalsely : Prop := topicsMapRow.holds Tryz.pinned (OpenSpec.ofChange topicsMapWrong)

/-- 'intagliolaw20.TopicsPlay': WHATEVER THE INPUT: true; the input reads as it did. -/
def topicsPlaySpec : ChangeSpec := { name := "topicsPlay", fn := fun _ => fun
  | [d1, d2] => { results := [.lit (.bool true)], args := [d1, d2] }
  | _ => none }
def topicsPlayRow : OpenClaim := { program := "ytkkddjchkkaagaagreatdoor", sum := "e693d09c725592648547d258cab9829c6773e86f9a69144fc851016c0cb97b0d", func := "intaglio/intagliolaw20.TopicsPlay", spec := "topicsPlay", inPlace := ["sync/atomic.AddInt64", "sync/atomic.LoadInt64", "internal/reflectlite.ValueOf", "(internal/reflectlite.Value).Type", "(internal/reflectlite.Value).IsNil", "internal/reflectlite.TypeOf", "(internal/reflectlite.Value).Elem", "(internal/reflectlite.Value).Set"], unfollowed := true, recurses := true, named := ["errors.errorType"], apart := false, laid := [("errors.errorType", laid_errors_errorType)] }
def TopicsPlaySaid : Prop := topicsPlayRow.holds Tryz.pinned (OpenSpec.ofChange topicsPlaySpec)

/-- ITS FALSE NEIGHBOUR: 'it returns false'. Refute it at one input. -/
def topicsPlayWrong : ChangeSpec := { name := "topicsPlay", fn := fun _ => fun
  | [d1, d2] => { results := [.lit (.bool false)], args := [d1, d2] }
  | _ => none }
def TopicsPlayWrongFalsely : Prop := topicsPlayRow.holds Tryz.pinned (OpenSpec.ofChange topicsPlayWrong)

/- THE SECOND FORM. 'bulk': how many values and letters a reading holds, each counted each time it is reached (what is shared counts as often as it is met; a slice's spare places count too). A statement '..UptoSaid' is the law's where the arguments, and the package variables that the reading takes, are together of bulk at most 1048576: NARROWER than '..Said'. Prove '..Said' where nothing that the law and all that it calls make is longer than what came in: it says more and counts as full. Else prove '..UptoSaid'. A law counts once. -/
mutual
def uptoBulk {H : Type} : DataW H → Nat
  | .lit (.string bytes) => bytes.length + 1
  | .lit _ => 1
  | .nil => 1
  | .ptr d => uptoBulk d + 1
  | .slice elems spare => uptoBulkAll elems + uptoBulkAll spare + 1
  | .agg parts => uptoBulkAll parts + 1
  | .iface _ d => uptoBulk d + 1
  | .map entries => uptoBulkEntries entries + 1
  | .held _ => 1
def uptoBulkAll {H : Type} : List (DataW H) → Nat
  | [] => 0
  | d :: r => uptoBulk d + uptoBulkAll r
def uptoBulkEntries {H : Type} : List (Lit × DataW H) → Nat
  | [] => 0
  | x :: r => uptoBulkEntry x + uptoBulkEntries r
def uptoBulkEntry {H : Type} : Lit × DataW H → Nat
  | (.string bytes, d) => bytes.length + uptoBulk d + 1
  | (_, d) => uptoBulk d + 1
 end
def uptoSmall : (H : Type) → List (DataW H) → Bool := fun _ ds => decide (uptoBulkAll ds ≤ 1048576)
def OpenSpec.upto (s : _root_.Go.ChangeSpec) : _root_.Go.OpenSpec := { _root_.Go.OpenSpec.ofChange s with cond := some uptoSmall }

/-- 'intagliolaw19.FindNil', WHERE WHAT IT READS IS OF BULK AT MOST 1048576: true; the input reads as it did. -/
def findNilUptoRow : OpenClaim := { program := "ytkkddjchkkaagaagreatdoor", sum := "e693d09c725592648547d258cab9829c6773e86f9a69144fc851016c0cb97b0d", func := "intaglio/intagliolaw19.FindNil", spec := "findNil", inPlace := ["internal/reflectlite.ValueOf", "(internal/reflectlite.Value).Type", "(internal/reflectlite.Value).IsNil", "internal/reflectlite.TypeOf", "(internal/reflectlite.Value).Elem", "(internal/reflectlite.Value).Set", "sync/atomic.AddInt64", "sync/atomic.LoadInt64"], unfollowed := true, recurses := true, named := ["errors.errorType"], apart := false, laid := [("errors.errorType", laid_errors_errorType)], narrowed := true }
def FindNilUptoSaid : Prop := findNilUptoRow.holds Tryz.pinned (OpenSpec.upto findNilSpec)

/-- 'intagliolaw19.FindFails', WHERE WHAT IT READS IS OF BULK AT MOST 1048576: true; the input reads as it did. -/
def findFailsUptoRow : OpenClaim := { program := "ytkkddjchkkaagaagreatdoor", sum := "e693d09c725592648547d258cab9829c6773e86f9a69144fc851016c0cb97b0d", func := "intaglio/intagliolaw19.FindFails", spec := "findFails", inPlace := ["sync/atomic.AddInt64", "sync/atomic.LoadInt64", "internal/reflectlite.ValueOf", "(internal/reflectlite.Value).Type", "(internal/reflectlite.Value).IsNil", "internal/reflectlite.TypeOf", "(internal/reflectlite.Value).Elem", "(internal/reflectlite.Value).Set"], unfollowed := true, recurses := true, named := ["errors.errorType"], apart := false, laid := [("errors.errorType", laid_errors_errorType)], narrowed := true }
def FindFailsUptoSaid : Prop := findFailsUptoRow.holds Tryz.pinned (OpenSpec.upto findFailsSpec)

/-- 'intagliolaw19.FindFinds', WHERE WHAT IT READS IS OF BULK AT MOST 1048576: true; the input reads as it did. -/
def findFindsUptoRow : OpenClaim := { program := "ytkkddjchkkaagaagreatdoor", sum := "e693d09c725592648547d258cab9829c6773e86f9a69144fc851016c0cb97b0d", func := "intaglio/intagliolaw19.FindFinds", spec := "findFinds", inPlace := ["sync/atomic.AddInt64", "sync/atomic.LoadInt64", "internal/reflectlite.ValueOf", "(internal/reflectlite.Value).Type", "(internal/reflectlite.Value).IsNil", "internal/reflectlite.TypeOf", "(internal/reflectlite.Value).Elem", "(internal/reflectlite.Value).Set"], unfollowed := true, recurses := true, named := ["errors.errorType"], apart := false, laid := [("errors.errorType", laid_errors_errorType)], narrowed := true }
def FindFindsUptoSaid : Prop := findFindsUptoRow.holds Tryz.pinned (OpenSpec.upto findFindsSpec)

/-- 'intagliolaw19.FindPlays', WHERE WHAT IT READS IS OF BULK AT MOST 1048576: true; the input reads as it did. -/
def findPlaysUptoRow : OpenClaim := { program := "ytkkddjchkkaagaagreatdoor", sum := "e693d09c725592648547d258cab9829c6773e86f9a69144fc851016c0cb97b0d", func := "intaglio/intagliolaw19.FindPlays", spec := "findPlays", inPlace := ["sync/atomic.AddInt64", "sync/atomic.LoadInt64", "internal/reflectlite.ValueOf", "(internal/reflectlite.Value).Type", "(internal/reflectlite.Value).IsNil", "internal/reflectlite.TypeOf", "(internal/reflectlite.Value).Elem", "(internal/reflectlite.Value).Set"], unfollowed := true, recurses := true, named := ["errors.errorType"], apart := false, laid := [("errors.errorType", laid_errors_errorType)], narrowed := true }
def FindPlaysUptoSaid : Prop := findPlaysUptoRow.holds Tryz.pinned (OpenSpec.upto findPlaysSpec)

/-- 'intagliolaw20.TopicsAlone', WHERE WHAT IT READS IS OF BULK AT MOST 1048576: true; the input reads as it did. -/
def topicsAloneUptoRow : OpenClaim := { program := "ytkkddjchkkaagaagreatdoor", sum := "e693d09c725592648547d258cab9829c6773e86f9a69144fc851016c0cb97b0d", func := "intaglio/intagliolaw20.TopicsAlone", spec := "topicsAlone", inPlace := ["sync/atomic.AddInt64", "sync/atomic.LoadInt64", "internal/reflectlite.ValueOf", "(internal/reflectlite.Value).Type", "(internal/reflectlite.Value).IsNil", "internal/reflectlite.TypeOf", "(internal/reflectlite.Value).Elem", "(internal/reflectlite.Value).Set"], unfollowed := true, recurses := true, named := ["errors.errorType"], apart := false, laid := [("errors.errorType", laid_errors_errorType)], narrowed := true }
def TopicsAloneUptoSaid : Prop := topicsAloneUptoRow.holds Tryz.pinned (OpenSpec.upto topicsAloneSpec)

/-- 'intagliolaw20.TopicsOnce', WHERE WHAT IT READS IS OF BULK AT MOST 1048576: true; the input reads as it did. -/
def topicsOnceUptoRow : OpenClaim := { program := "ytkkddjchkkaagaagreatdoor", sum := "e693d09c725592648547d258cab9829c6773e86f9a69144fc851016c0cb97b0d", func := "intaglio/intagliolaw20.TopicsOnce", spec := "topicsOnce", inPlace := ["sync/atomic.AddInt64", "sync/atomic.LoadInt64", "internal/reflectlite.ValueOf", "(internal/reflectlite.Value).Type", "(internal/reflectlite.Value).IsNil", "internal/reflectlite.TypeOf", "(internal/reflectlite.Value).Elem", "(internal/reflectlite.Value).Set"], unfollowed := true, recurses := true, named := ["errors.errorType"], apart := false, laid := [("errors.errorType", laid_errors_errorType)], narrowed := true }
def TopicsOnceUptoSaid : Prop := topicsOnceUptoRow.holds Tryz.pinned (OpenSpec.upto topicsOnceSpec)

/-- 'intagliolaw20.TopicsEpochs', WHERE WHAT IT READS IS OF BULK AT MOST 1048576: true; the input reads as it did. -/
def topicsEpochsUptoRow : OpenClaim := { program := "ytkkddjchkkaagaagreatdoor", sum := "e693d09c725592648547d258cab9829c6773e86f9a69144fc851016c0cb97b0d", func := "intaglio/intagliolaw20.TopicsEpochs", spec := "topicsEpochs", inPlace := ["sync/atomic.AddInt64", "sync/atomic.LoadInt64", "internal/reflectlite.ValueOf", "(internal/reflectlite.Value).Type", "(internal/reflectlite.Value).IsNil", "internal/reflectlite.TypeOf", "(internal/reflectlite.Value).Elem", "(internal/reflectlite.Value).Set"], unfollowed := true, recurses := true, named := ["errors.errorType"], apart := false, laid := [("errors.errorType", laid_errors_errorType)], narrowed := true }
def TopicsEpochsUptoSaid : Prop := topicsEpochsUptoRow.holds Tryz.pinned (OpenSpec.upto topicsEpochsSpec)

/-- 'intagliolaw20.TopicsNil', WHERE WHAT IT READS IS OF BULK AT MOST 1048576: true; the input reads as it did. -/
def topicsNilUptoRow : OpenClaim := { program := "ytkkddjchkkaagaagreatdoor", sum := "e693d09c725592648547d258cab9829c6773e86f9a69144fc851016c0cb97b0d", func := "intaglio/intagliolaw20.TopicsNil", spec := "topicsNil", inPlace := ["sync/atomic.AddInt64", "sync/atomic.LoadInt64", "internal/reflectlite.ValueOf", "(internal/reflectlite.Value).Type", "(internal/reflectlite.Value).IsNil", "internal/reflectlite.TypeOf", "(internal/reflectlite.Value).Elem", "(internal/reflectlite.Value).Set"], unfollowed := true, recurses := true, named := ["errors.errorType"], apart := false, laid := [("errors.errorType", laid_errors_errorType)], narrowed := true }
def TopicsNilUptoSaid : Prop := topicsNilUptoRow.holds Tryz.pinned (OpenSpec.upto topicsNilSpec)

/-- 'intagliolaw20.TopicsMap', WHERE WHAT IT READS IS OF BULK AT MOST 1048576: true; the input reads as it did. -/
def topicsMapUptoRow : OpenClaim := { program := "ytkkddjchkkaagaagreatdoor", sum := "e693d09c725592648547d258cab9829c6773e86f9a69144fc851016c0cb97b0d", func := "intaglio/intagliolaw20.TopicsMap", spec := "topicsMap", inPlace := ["sync/atomic.AddInt64", "sync/atomic.LoadInt64", "internal/reflectlite.ValueOf", "(internal/reflectlite.Value).Type", "(internal/reflectlite.Value).IsNil", "internal/reflectlite.TypeOf", "(internal/reflectlite.Value).Elem", "(internal/reflectlite.Value).Set"], unfollowed := true, recurses := true, named := ["errors.errorType"], apart := false, laid := [("errors.errorType", laid_errors_errorType)], narrowed := true }
def TopicsMapUptoSaid : Prop := topicsMapUptoRow.holds Tryz.pinned (OpenSpec.upto topicsMapSpec)

/-- 'intagliolaw20.TopicsPlay', WHERE WHAT IT READS IS OF BULK AT MOST 1048576: true; the input reads as it did. -/
def topicsPlayUptoRow : OpenClaim := { program := "ytkkddjchkkaagaagreatdoor", sum := "e693d09c725592648547d258cab9829c6773e86f9a69144fc851016c0cb97b0d", func := "intaglio/intagliolaw20.TopicsPlay", spec := "topicsPlay", inPlace := ["sync/atomic.AddInt64", "sync/atomic.LoadInt64", "internal/reflectlite.ValueOf", "(internal/reflectlite.Value).Type", "(internal/reflectlite.Value).IsNil", "internal/reflectlite.TypeOf", "(internal/reflectlite.Value).Elem", "(internal/reflectlite.Value).Set"], unfollowed := true, recurses := true, named := ["errors.errorType"], apart := false, laid := [("errors.errorType", laid_errors_errorType)], narrowed := true }
def TopicsPlayUptoSaid : Prop := topicsPlayUptoRow.holds Tryz.pinned (OpenSpec.upto topicsPlaySpec)

end Rows
end Go.Proofs.YtkkddjchkkaagaaGreatDoor
