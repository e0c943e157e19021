/-
  NARROWER THAN 'FOR EVERY INPUT', by the rows' own cells (each row's printed sentence says how): SmallAlone: laid · SmallFails: laid · SmallWhole: laid · SmallLast: laid · SmallNil: laid · SmallPlays: laid.
  DERIVED. THE GIVEN ROWS OF THIS SEAT. 6 by the template 'for every input the law returns true; each argument reads behind the call as it read before'; 0 by the template 'total and deterministic' (their statements: YtmghcelohnlceaaGreatDoorTotals.lean).
  GIVEN WITH THE SEED: the statements are not yours to turn. If you find one false, say at which input.
  Laid BY PROGRAM, IN A SANDBOX (cutbox-rows.mjs): the forced cells as the released guide's own fill.sh prints them over the translation 21437acbe1b0253c… (all of the seat's roots in one cut). By AI agents, Wed Nov 11 2026. No macro, syntax, notation, axiom, sorry.
-/
import Derived.Test.YtmghcelohnlceaaGreatDoorChecked
import GoSem.Claim
import GoSem.ClaimJoined
import GoSem.ClaimMapViews
import Derived.JoinedTies
import Derived.KernelRfl
namespace Go.Proofs.YtmghcelohnlceaaGreatDoor
/- THE CELL 'sum', in the pinned program and in every row, IS THE sha256 OF THE DUMP (.gsa) THAT YtmghcelohnlceaaGreatDoorProg.lean LOADS. Nothing in Lean hashes anything: it is a label: what it is worth is what the hold of that sum in a sandbox is worth. -/
noncomputable def Tryz.pinned : Pinned := { name := "ytmghcelohnlceaagreatdoor", sum := "21437acbe1b0253cef9a327cc719230fb8f88512c9455d1af59fd85742a85748", checked := Tryz.checked }
namespace Rows
def none {H : Type} : Left H := { results := [], args := [] }

/- WHAT THE LISTED PACKAGE-LEVEL VARIABLES READ AS WHEN THE CALL BEGINS. Each datum BY PROGRAM (the guide's laid-datum.mjs) off the statement by which the dump's own 'gosem.cut.vars' lays the variable. In a bare row this is a premise. The card (YtmghcelohnlceaaGreatDoorCards.lean) ties it to the program's text. -/
def laid_errors_errorType {H : Type} : DataW H := .iface "internal/reflectlite.rtype" (.agg [.ptr (.lit (.string [101, 114, 114, 111, 114]))])

/-- 'intagliolaw16.SmallAlone': WHATEVER THE INPUT: true; the input reads as it did. -/
def smallAloneSpec : ChangeSpec := { name := "smallAlone", fn := fun _ => fun
  | [d1, d2, d3] => { results := [.lit (.bool true)], args := [d1, d2, d3] }
  | _ => none }
def smallAloneRow : OpenClaim := { program := "ytmghcelohnlceaagreatdoor", sum := "21437acbe1b0253cef9a327cc719230fb8f88512c9455d1af59fd85742a85748", func := "intaglio/intagliolaw16.SmallAlone", spec := "smallAlone", inPlace := ["sync/atomic.AddInt64", "sync/atomic.LoadInt64", "internal/reflectlite.ValueOf", "(internal/reflectlite.Value).Type", "(internal/reflectlite.Value).IsNil", "internal/reflectlite.TypeOf", "(internal/reflectlite.Value).Elem", "(internal/reflectlite.Value).Set"], unfollowed := true, recurses := true, named := ["errors.errorType"], apart := false, laid := [("errors.errorType", laid_errors_errorType)] }
def SmallAloneSaid : Prop := smallAloneRow.holds Tryz.pinned (OpenSpec.ofChange smallAloneSpec)

/-- ITS FALSE NEIGHBOUR: 'it returns false'. Refute it at one input. -/
def smallAloneWrong : ChangeSpec := { name := "smallAlone", fn := fun _ => fun
  | [d1, d2, d3] => { results := [.lit (.bool false)], args := [d1, d2, d3] }
  | _ => none }
def SmallAloneWrongFalsely : Prop := smallAloneRow.holds Tryz.pinned (OpenSpec.ofChange smallAloneWrong)

/-- 'intagliolaw16.SmallFails': WHATEVER THE INPUT: true; the input reads as it did. -/
def smallFailsSpec : ChangeSpec := { name := "smallFails", fn := fun _ => fun
  | [d1, d2] => { results := [.lit (.bool true)], args := [d1, d2] }
  | _ => none }
def smallFailsRow : OpenClaim := { program := "ytmghcelohnlceaagreatdoor", sum := "21437acbe1b0253cef9a327cc719230fb8f88512c9455d1af59fd85742a85748", func := "intaglio/intagliolaw16.SmallFails", spec := "smallFails", inPlace := ["sync/atomic.AddInt64", "sync/atomic.LoadInt64", "internal/reflectlite.ValueOf", "(internal/reflectlite.Value).Type", "(internal/reflectlite.Value).IsNil", "internal/reflectlite.TypeOf", "(internal/reflectlite.Value).Elem", "(internal/reflectlite.Value).Set"], unfollowed := true, recurses := true, named := ["errors.errorType"], apart := false, laid := [("errors.errorType", laid_errors_errorType)] }
def SmallFailsSaid : Prop := smallFailsRow.holds Tryz.pinned (OpenSpec.ofChange smallFailsSpec)

/-- ITS FALSE NEIGHBOUR: 'it returns false'. Refute it at one input. -/
def smallFailsWrong : ChangeSpec := { name := "smallFails", fn := fun _ => fun
  | [d1, d2] => { results := [.lit (.bool false)], args := [d1, d2] }
  | _ => none }
def SmallFailsWrongFalsely : Prop := smallFailsRow.holds Tryz.pinned (OpenSpec.ofChange smallFailsWrong)

/-- 'intagliolaw16.SmallWhole': WHATEVER THE INPUT: true; the input reads as it did. -/
def smallWholeSpec : ChangeSpec := { name := "smallWhole", fn := fun _ => fun
  | [d1, d2] => { results := [.lit (.bool true)], args := [d1, d2] }
  | _ => none }
def smallWholeRow : OpenClaim := { program := "ytmghcelohnlceaagreatdoor", sum := "21437acbe1b0253cef9a327cc719230fb8f88512c9455d1af59fd85742a85748", func := "intaglio/intagliolaw16.SmallWhole", spec := "smallWhole", inPlace := ["sync/atomic.AddInt64", "sync/atomic.LoadInt64", "internal/reflectlite.ValueOf", "(internal/reflectlite.Value).Type", "(internal/reflectlite.Value).IsNil", "internal/reflectlite.TypeOf", "(internal/reflectlite.Value).Elem", "(internal/reflectlite.Value).Set"], unfollowed := true, recurses := true, named := ["errors.errorType"], apart := false, laid := [("errors.errorType", laid_errors_errorType)] }
def SmallWholeSaid : Prop := smallWholeRow.holds Tryz.pinned (OpenSpec.ofChange smallWholeSpec)

/-- ITS FALSE NEIGHBOUR: 'it returns false'. Refute it at one input. -/
def smallWholeWrong : ChangeSpec := { name := "smallWhole", fn := fun _ => fun
  | [d1, d2] => { results := [.lit (.bool false)], args := [d1, d2] }
  | _ => none }
def SmallWholeWrongFalsely : Prop := smallWholeRow.holds Tryz.pinned (OpenSpec.ofChange smallWholeWrong)

/-- 'intagliolaw16.SmallLast': WHATEVER THE INPUT: true; the input reads as it did. -/
def smallLastSpec : ChangeSpec := { name := "smallLast", fn := fun _ => fun
  | [d1, d2] => { results := [.lit (.bool true)], args := [d1, d2] }
  | _ => none }
def smallLastRow : OpenClaim := { program := "ytmghcelohnlceaagreatdoor", sum := "21437acbe1b0253cef9a327cc719230fb8f88512c9455d1af59fd85742a85748", func := "intaglio/intagliolaw16.SmallLast", spec := "smallLast", inPlace := ["sync/atomic.AddInt64", "sync/atomic.LoadInt64", "internal/reflectlite.ValueOf", "(internal/reflectlite.Value).Type", "(internal/reflectlite.Value).IsNil", "internal/reflectlite.TypeOf", "(internal/reflectlite.Value).Elem", "(internal/reflectlite.Value).Set"], unfollowed := true, recurses := true, named := ["errors.errorType"], apart := false, laid := [("errors.errorType", laid_errors_errorType)] }
def SmallLastSaid : Prop := smallLastRow.holds Tryz.pinned (OpenSpec.ofChange smallLastSpec)

/-- ITS FALSE NEIGHBOUR: 'it returns false'. Refute it at one input. -/
def smallLastWrong : ChangeSpec := { name := "smallLast", fn := fun _ => fun
  | [d1, d2] => { results := [.lit (.bool false)], args := [d1, d2] }
  | _ => none }
def SmallLastWrongFalsely : Prop := smallLastRow.holds Tryz.pinned (OpenSpec.ofChange smallLastWrong)

/-- 'intagliolaw16.SmallNil': WHATEVER THE INPUT: true; the input reads as it did. -/
def smallNilSpec : ChangeSpec := { name := "smallNil", fn := fun _ => fun
  | [d1, d2] => { results := [.lit (.bool true)], args := [d1, d2] }
  | _ => none }
def smallNilRow : OpenClaim := { program := "ytmghcelohnlceaagreatdoor", sum := "21437acbe1b0253cef9a327cc719230fb8f88512c9455d1af59fd85742a85748", func := "intaglio/intagliolaw16.SmallNil", spec := "smallNil", inPlace := ["sync/atomic.AddInt64", "sync/atomic.LoadInt64", "internal/reflectlite.ValueOf", "(internal/reflectlite.Value).Type", "(internal/reflectlite.Value).IsNil", "internal/reflectlite.TypeOf", "(internal/reflectlite.Value).Elem", "(internal/reflectlite.Value).Set"], unfollowed := true, recurses := true, named := ["errors.errorType"], apart := false, laid := [("errors.errorType", laid_errors_errorType)] }
def SmallNilSaid : Prop := smallNilRow.holds Tryz.pinned (OpenSpec.ofChange smallNilSpec)

/-- ITS FALSE NEIGHBOUR: 'it returns false'. Refute it at one input. -/
def smallNilWrong : ChangeSpec := { name := "smallNil", fn := fun _ => fun
  | [d1, d2] => { results := [.lit (.bool false)], args := [d1, d2] }
  | _ => none }
def SmallNilWrongFalsely : Prop := smallNilRow.holds Tryz.pinned (OpenSpec.ofChange smallNilWrong)

/-- 'intagliolaw16.SmallPlays': WHATEVER THE INPUT: true; the input reads as it did. -/
def smallPlaysSpec : ChangeSpec := { name := "smallPlays", fn := fun _ => fun
  | [d1, d2] => { results := [.lit (.bool true)], args := [d1, d2] }
  | _ => none }
def smallPlaysRow : OpenClaim := { program := "ytmghcelohnlceaagreatdoor", sum := "21437acbe1b0253cef9a327cc719230fb8f88512c9455d1af59fd85742a85748", func := "intaglio/intagliolaw16.SmallPlays", spec := "smallPlays", inPlace := ["sync/atomic.AddInt64", "sync/atomic.LoadInt64", "internal/reflectlite.ValueOf", "(internal/reflectlite.Value).Type", "(internal/reflectlite.Value).IsNil", "internal/reflectlite.TypeOf", "(internal/reflectlite.Value).Elem", "(internal/reflectlite.Value).Set"], unfollowed := true, recurses := true, named := ["errors.errorType"], apart := false, laid := [("errors.errorType", laid_errors_errorType)] }
def SmallPlaysSaid : Prop := smallPlaysRow.holds Tryz.pinned (OpenSpec.ofChange smallPlaysSpec)

/-- ITS FALSE NEIGHBOUR: 'it returns false'. Refute it at one input. -/
def smallPlaysWrong : ChangeSpec := { name := "smallPlays", fn := fun _ => fun
  | [d1, d2] => { results := [.lit (.bool false)], args := [d1, d2] }
  | _ => none }
def SmallPlaysWrongFalsely : Prop := smallPlaysRow.holds Tryz.pinned (OpenSpec.ofChange smallPlaysWrong)

/- THE SECOND FORM. 'bulk': how many values and letters a reading holds, each counted each time it is reached (what is shared counts as often as it is met; a slice's spare places count too). A statement '..UptoSaid' is the law's where the arguments, and the package variables that the reading takes, are together of bulk at most 1048576: NARROWER than '..Said'. Prove '..Said' where nothing that the law and all that it calls make is longer than what came in: it says more and counts as full. Else prove '..UptoSaid'. A law counts once. -/
mutual
def uptoBulk {H : Type} : DataW H → Nat
  | .lit (.string bytes) => bytes.length + 1
  | .lit _ => 1
  | .nil => 1
  | .ptr d => uptoBulk d + 1
  | .slice elems spare => uptoBulkAll elems + uptoBulkAll spare + 1
  | .agg parts => uptoBulkAll parts + 1
  | .iface _ d => uptoBulk d + 1
  | .map entries => uptoBulkEntries entries + 1
  | .held _ => 1
def uptoBulkAll {H : Type} : List (DataW H) → Nat
  | [] => 0
  | d :: r => uptoBulk d + uptoBulkAll r
def uptoBulkEntries {H : Type} : List (Lit × DataW H) → Nat
  | [] => 0
  | x :: r => uptoBulkEntry x + uptoBulkEntries r
def uptoBulkEntry {H : Type} : Lit × DataW H → Nat
  | (.string bytes, d) => bytes.length + uptoBulk d + 1
  | (_, d) => uptoBulk d + 1
 end
def uptoSmall : (H : Type) → List (DataW H) → Bool := fun _ ds => decide (uptoBulkAll ds ≤ 1048576)
def OpenSpec.upto (s : _root_.Go.ChangeSpec) : _root_.Go.OpenSpec := { _root_.Go.OpenSpec.ofChange s with cond := some uptoSmall }

/-- 'intagliolaw16.SmallAlone', WHERE WHAT IT READS IS OF BULK AT MOST 1048576: true; the input reads as it did. -/
def smallAloneUptoRow : OpenClaim := { program := "ytmghcelohnlceaagreatdoor", sum := "21437acbe1b0253cef9a327cc719230fb8f88512c9455d1af59fd85742a85748", func := "intaglio/intagliolaw16.SmallAlone", spec := "smallAlone", inPlace := ["sync/atomic.AddInt64", "sync/atomic.LoadInt64", "internal/reflectlite.ValueOf", "(internal/reflectlite.Value).Type", "(internal/reflectlite.Value).IsNil", "internal/reflectlite.TypeOf", "(internal/reflectlite.Value).Elem", "(internal/reflectlite.Value).Set"], unfollowed := true, recurses := true, named := ["errors.errorType"], apart := false, laid := [("errors.errorType", laid_errors_errorType)], narrowed := true }
def SmallAloneUptoSaid : Prop := smallAloneUptoRow.holds Tryz.pinned (OpenSpec.upto smallAloneSpec)

/-- 'intagliolaw16.SmallFails', WHERE WHAT IT READS IS OF BULK AT MOST 1048576: true; the input reads as it did. -/
def smallFailsUptoRow : OpenClaim := { program := "ytmghcelohnlceaagreatdoor", sum := "21437acbe1b0253cef9a327cc719230fb8f88512c9455d1af59fd85742a85748", func := "intaglio/intagliolaw16.SmallFails", spec := "smallFails", inPlace := ["sync/atomic.AddInt64", "sync/atomic.LoadInt64", "internal/reflectlite.ValueOf", "(internal/reflectlite.Value).Type", "(internal/reflectlite.Value).IsNil", "internal/reflectlite.TypeOf", "(internal/reflectlite.Value).Elem", "(internal/reflectlite.Value).Set"], unfollowed := true, recurses := true, named := ["errors.errorType"], apart := false, laid := [("errors.errorType", laid_errors_errorType)], narrowed := true }
def SmallFailsUptoSaid : Prop := smallFailsUptoRow.holds Tryz.pinned (OpenSpec.upto smallFailsSpec)

/-- 'intagliolaw16.SmallWhole', WHERE WHAT IT READS IS OF BULK AT MOST 1048576: true; the input reads as it did. -/
def smallWholeUptoRow : OpenClaim := { program := "ytmghcelohnlceaagreatdoor", sum := "21437acbe1b0253cef9a327cc719230fb8f88512c9455d1af59fd85742a85748", func := "intaglio/intagliolaw16.SmallWhole", spec := "smallWhole", inPlace := ["sync/atomic.AddInt64", "sync/atomic.LoadInt64", "internal/reflectlite.ValueOf", "(internal/reflectlite.Value).Type", "(internal/reflectlite.Value).IsNil", "internal/reflectlite.TypeOf", "(internal/reflectlite.Value).Elem", "(internal/reflectlite.Value).Set"], unfollowed := true, recurses := true, named := ["errors.errorType"], apart := false, laid := [("errors.errorType", laid_errors_errorType)], narrowed := true }
def SmallWholeUptoSaid : Prop := smallWholeUptoRow.holds Tryz.pinned (OpenSpec.upto smallWholeSpec)

/-- 'intagliolaw16.SmallLast', WHERE WHAT IT READS IS OF BULK AT MOST 1048576: true; the input reads as it did. -/
def smallLastUptoRow : OpenClaim := { program := "ytmghcelohnlceaagreatdoor", sum := "21437acbe1b0253cef9a327cc719230fb8f88512c9455d1af59fd85742a85748", func := "intaglio/intagliolaw16.SmallLast", spec := "smallLast", inPlace := ["sync/atomic.AddInt64", "sync/atomic.LoadInt64", "internal/reflectlite.ValueOf", "(internal/reflectlite.Value).Type", "(internal/reflectlite.Value).IsNil", "internal/reflectlite.TypeOf", "(internal/reflectlite.Value).Elem", "(internal/reflectlite.Value).Set"], unfollowed := true, recurses := true, named := ["errors.errorType"], apart := false, laid := [("errors.errorType", laid_errors_errorType)], narrowed := true }
def SmallLastUptoSaid : Prop := smallLastUptoRow.holds Tryz.pinned (OpenSpec.upto smallLastSpec)

/-- 'intagliolaw16.SmallNil', WHERE WHAT IT READS IS OF BULK AT MOST 1048576: true; the input reads as it did. -/
def smallNilUptoRow : OpenClaim := { program := "ytmghcelohnlceaagreatdoor", sum := "21437acbe1b0253cef9a327cc719230fb8f88512c9455d1af59fd85742a85748", func := "intaglio/intagliolaw16.SmallNil", spec := "smallNil", inPlace := ["sync/atomic.AddInt64", "sync/atomic.LoadInt64", "internal/reflectlite.ValueOf", "(internal/reflectlite.Value).Type", "(internal/reflectlite.Value).IsNil", "internal/reflectlite.TypeOf", "(internal/reflectlite.Value).Elem", "(internal/reflectlite.Value).Set"], unfollowed := true, recurses := true, named := ["errors.errorType"], apart := false, laid := [("errors.errorType", laid_errors_errorType)], narrowed := true }
def SmallNilUptoSaid : Prop := smallNilUptoRow.holds Tryz.pinned (OpenSpec.upto smallNilSpec)

/-- 'intagliolaw16.SmallPlays', WHERE WHAT IT READS IS OF BULK AT MOST 1048576: true; the input reads as it did. -/
def smallPlaysUptoRow : OpenClaim := { program := "ytmghcelohnlceaagreatdoor", sum := "21437acbe1b0253cef9a327cc719230fb8f88512c9455d1af59fd85742a85748", func := "intaglio/intagliolaw16.SmallPlays", spec := "smallPlays", inPlace := ["sync/atomic.AddInt64", "sync/atomic.LoadInt64", "internal/reflectlite.ValueOf", "(internal/reflectlite.Value).Type", "(internal/reflectlite.Value).IsNil", "internal/reflectlite.TypeOf", "(internal/reflectlite.Value).Elem", "(internal/reflectlite.Value).Set"], unfollowed := true, recurses := true, named := ["errors.errorType"], apart := false, laid := [("errors.errorType", laid_errors_errorType)], narrowed := true }
def SmallPlaysUptoSaid : Prop := smallPlaysUptoRow.holds Tryz.pinned (OpenSpec.upto smallPlaysSpec)

end Rows
end Go.Proofs.YtmghcelohnlceaaGreatDoor
