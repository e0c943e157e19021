/-
  NARROWER THAN 'FOR EVERY INPUT', by the rows' own cells (each row's printed sentence says how): ArenaMakes: laid · ArenaNil: laid · ArenaOwn: laid · PlanOnce: laid · PlanTells: laid · PlanNil: laid · PlanMakes: laid.
  DERIVED. THE GIVEN ROWS OF THIS SEAT. 7 by the template 'for every input the law returns true; each argument reads behind the call as it read before'; 0 by the template 'total and deterministic' (their statements: YticejfomcekolaaDoorTotals.lean).
  GIVEN WITH THE SEED: the statements are not yours to turn. If you find one false, say at which input.
  Laid BY PROGRAM, IN A SANDBOX (cutbox-rows.mjs): the forced cells as the released guide's own fill.sh prints them over the translation 03110c9417042817… (all of the seat's roots in one cut). By AI agents, Wed Nov 11 2026. No macro, syntax, notation, axiom, sorry.
-/
import Derived.Test.YticejfomcekolaaDoorChecked
import GoSem.Claim
import GoSem.ClaimJoined
import GoSem.ClaimMapViews
import Derived.JoinedTies
import Derived.KernelRfl
namespace Go.Proofs.YticejfomcekolaaDoor
/- THE CELL 'sum', in the pinned program and in every row, IS THE sha256 OF THE DUMP (.gsa) THAT YticejfomcekolaaDoorProg.lean LOADS. Nothing in Lean hashes anything: it is a label: what it is worth is what the hold of that sum in a sandbox is worth. -/
noncomputable def Tryd.pinned : Pinned := { name := "yticejfomcekolaadoor", sum := "03110c94170428178df702bcc1dd7beb21b3277481aa3448a595862276654dda", checked := Tryd.checked }
namespace Rows
def none {H : Type} : Left H := { results := [], args := [] }

/- WHAT THE LISTED PACKAGE-LEVEL VARIABLES READ AS WHEN THE CALL BEGINS. Each datum BY PROGRAM (the guide's laid-datum.mjs) off the statement by which the dump's own 'gosem.cut.vars' lays the variable. In a bare row this is a premise. The card (YticejfomcekolaaDoorCards.lean) ties it to the program's text. -/
def laid_errors_errorType {H : Type} : DataW H := .iface "internal/reflectlite.rtype" (.agg [.ptr (.lit (.string [101, 114, 114, 111, 114]))])

/-- 'intagliolaw03.ArenaMakes': WHATEVER THE INPUT: true; the input reads as it did. -/
def arenaMakesSpec : ChangeSpec := { name := "arenaMakes", fn := fun _ => fun
  | [d1, d2] => { results := [.lit (.bool true)], args := [d1, d2] }
  | _ => none }
def arenaMakesRow : OpenClaim := { program := "yticejfomcekolaadoor", sum := "03110c94170428178df702bcc1dd7beb21b3277481aa3448a595862276654dda", func := "intaglio/intagliolaw03.ArenaMakes", spec := "arenaMakes", inPlace := ["sync/atomic.AddInt64", "sync/atomic.LoadInt64", "internal/reflectlite.ValueOf", "(internal/reflectlite.Value).Type", "(internal/reflectlite.Value).IsNil", "internal/reflectlite.TypeOf", "(internal/reflectlite.Value).Elem", "(internal/reflectlite.Value).Set"], unfollowed := true, recurses := true, named := ["errors.errorType"], apart := false, laid := [("errors.errorType", laid_errors_errorType)] }
def ArenaMakesSaid : Prop := arenaMakesRow.holds Tryd.pinned (OpenSpec.ofChange arenaMakesSpec)

/-- ITS FALSE NEIGHBOUR: 'it returns false'. Refute it at one input. -/
def arenaMakesWrong : ChangeSpec := { name := "arenaMakes", fn := fun _ => fun
  | [d1, d2] => { results := [.lit (.bool false)], args := [d1, d2] }
  | _ => none }
def ArenaMakesWrongFalsely : Prop := arenaMakesRow.holds Tryd.pinned (OpenSpec.ofChange arenaMakesWrong)

/-- 'intagliolaw03.ArenaNil': WHATEVER THE INPUT: true; the input reads as it did. -/
def arenaNilSpec : ChangeSpec := { name := "arenaNil", fn := fun _ => fun
  | [d1, d2] => { results := [.lit (.bool true)], args := [d1, d2] }
  | _ => none }
def arenaNilRow : OpenClaim := { program := "yticejfomcekolaadoor", sum := "03110c94170428178df702bcc1dd7beb21b3277481aa3448a595862276654dda", func := "intaglio/intagliolaw03.ArenaNil", spec := "arenaNil", inPlace := ["sync/atomic.AddInt64", "sync/atomic.LoadInt64", "internal/reflectlite.ValueOf", "(internal/reflectlite.Value).Type", "(internal/reflectlite.Value).IsNil", "internal/reflectlite.TypeOf", "(internal/reflectlite.Value).Elem", "(internal/reflectlite.Value).Set"], unfollowed := true, recurses := true, named := ["errors.errorType"], apart := false, laid := [("errors.errorType", laid_errors_errorType)] }
def ArenaNilSaid : Prop := arenaNilRow.holds Tryd.pinned (OpenSpec.ofChange arenaNilSpec)

/-- ITS FALSE NEIGHBOUR: 'it returns false'. Refute it at one input. -/
def arenaNilWrong : ChangeSpec := { name := "arenaNil", fn := fun _ => fun
  | [d1, d2] => { results := [.lit (.bool false)], args := [d1, d2] }
  | _ => none }
def ArenaNilWrongFalsely : Prop := arenaNilRow.holds Tryd.pinned (OpenSpec.ofChange arenaNilWrong)

/-- 'intagliolaw03.ArenaOwn': WHATEVER THE INPUT: true; the input reads as it did. -/
def arenaOwnSpec : ChangeSpec := { name := "arenaOwn", fn := fun _ => fun
  | [d] => { results := [.lit (.bool true)], args := [d] }
  | _ => none }
def arenaOwnRow : OpenClaim := { program := "yticejfomcekolaadoor", sum := "03110c94170428178df702bcc1dd7beb21b3277481aa3448a595862276654dda", func := "intaglio/intagliolaw03.ArenaOwn", spec := "arenaOwn", inPlace := ["sync/atomic.AddInt64", "internal/reflectlite.ValueOf", "(internal/reflectlite.Value).Type", "(internal/reflectlite.Value).IsNil", "internal/reflectlite.TypeOf", "(internal/reflectlite.Value).Elem", "(internal/reflectlite.Value).Set", "sync/atomic.LoadInt64"], unfollowed := true, recurses := true, named := ["errors.errorType"], apart := false, laid := [("errors.errorType", laid_errors_errorType)] }
def ArenaOwnSaid : Prop := arenaOwnRow.holds Tryd.pinned (OpenSpec.ofChange arenaOwnSpec)

/-- ITS FALSE NEIGHBOUR: 'it returns false'. Refute it at one input. -/
def arenaOwnWrong : ChangeSpec := { name := "arenaOwn", fn := fun _ => fun
  | [d] => { results := [.lit (.bool false)], args := [d] }
  | _ => none }
def ArenaOwnWrongFalsely : Prop := arenaOwnRow.holds Tryd.pinned (OpenSpec.ofChange arenaOwnWrong)

/-- 'intagliolaw04.PlanOnce': WHATEVER THE INPUT: true; the input reads as it did. -/
def planOnceSpec : ChangeSpec := { name := "planOnce", fn := fun _ => fun
  | [d1, d2, d3] => { results := [.lit (.bool true)], args := [d1, d2, d3] }
  | _ => none }
def planOnceRow : OpenClaim := { program := "yticejfomcekolaadoor", sum := "03110c94170428178df702bcc1dd7beb21b3277481aa3448a595862276654dda", func := "intaglio/intagliolaw04.PlanOnce", spec := "planOnce", inPlace := ["internal/reflectlite.ValueOf", "(internal/reflectlite.Value).Type", "(internal/reflectlite.Value).IsNil", "internal/reflectlite.TypeOf", "(internal/reflectlite.Value).Elem", "(internal/reflectlite.Value).Set"], unfollowed := true, recurses := true, named := ["errors.errorType"], apart := false, laid := [("errors.errorType", laid_errors_errorType)] }
def PlanOnceSaid : Prop := planOnceRow.holds Tryd.pinned (OpenSpec.ofChange planOnceSpec)

/-- ITS FALSE NEIGHBOUR: 'it returns false'. Refute it at one input. -/
def planOnceWrong : ChangeSpec := { name := "planOnce", fn := fun _ => fun
  | [d1, d2, d3] => { results := [.lit (.bool false)], args := [d1, d2, d3] }
  | _ => none }
def PlanOnceWrongFalsely : Prop := planOnceRow.holds Tryd.pinned (OpenSpec.ofChange planOnceWrong)

/-- 'intagliolaw04.PlanTells': WHATEVER THE INPUT: true; the input reads as it did. -/
def planTellsSpec : ChangeSpec := { name := "planTells", fn := fun _ => fun
  | [d1, d2, d3] => { results := [.lit (.bool true)], args := [d1, d2, d3] }
  | _ => none }
def planTellsRow : OpenClaim := { program := "yticejfomcekolaadoor", sum := "03110c94170428178df702bcc1dd7beb21b3277481aa3448a595862276654dda", func := "intaglio/intagliolaw04.PlanTells", spec := "planTells", inPlace := ["internal/reflectlite.ValueOf", "(internal/reflectlite.Value).Type", "(internal/reflectlite.Value).IsNil", "internal/reflectlite.TypeOf", "(internal/reflectlite.Value).Elem", "(internal/reflectlite.Value).Set"], unfollowed := true, recurses := true, named := ["errors.errorType"], apart := false, laid := [("errors.errorType", laid_errors_errorType)] }
def PlanTellsSaid : Prop := planTellsRow.holds Tryd.pinned (OpenSpec.ofChange planTellsSpec)

/-- ITS FALSE NEIGHBOUR: 'it returns false'. Refute it at one input. -/
def planTellsWrong : ChangeSpec := { name := "planTells", fn := fun _ => fun
  | [d1, d2, d3] => { results := [.lit (.bool false)], args := [d1, d2, d3] }
  | _ => none }
def PlanTellsWrongFalsely : Prop := planTellsRow.holds Tryd.pinned (OpenSpec.ofChange planTellsWrong)

/-- 'intagliolaw04.PlanNil': WHATEVER THE INPUT: true; the input reads as it did. -/
def planNilSpec : ChangeSpec := { name := "planNil", fn := fun _ => fun
  | [d] => { results := [.lit (.bool true)], args := [d] }
  | _ => none }
def planNilRow : OpenClaim := { program := "yticejfomcekolaadoor", sum := "03110c94170428178df702bcc1dd7beb21b3277481aa3448a595862276654dda", func := "intaglio/intagliolaw04.PlanNil", spec := "planNil", inPlace := ["sync/atomic.AddInt64", "internal/reflectlite.ValueOf", "(internal/reflectlite.Value).Type", "(internal/reflectlite.Value).IsNil", "internal/reflectlite.TypeOf", "(internal/reflectlite.Value).Elem", "(internal/reflectlite.Value).Set"], unfollowed := true, recurses := true, named := ["errors.errorType"], apart := false, laid := [("errors.errorType", laid_errors_errorType)] }
def PlanNilSaid : Prop := planNilRow.holds Tryd.pinned (OpenSpec.ofChange planNilSpec)

/-- ITS FALSE NEIGHBOUR: 'it returns false'. Refute it at one input. -/
def planNilWrong : ChangeSpec := { name := "planNil", fn := fun _ => fun
  | [d] => { results := [.lit (.bool false)], args := [d] }
  | _ => none }
def PlanNilWrongFalsely : Prop := planNilRow.holds Tryd.pinned (OpenSpec.ofChange planNilWrong)

/-- 'intagliolaw04.PlanMakes': WHATEVER THE INPUT: true; the input reads as it did. -/
def planMakesSpec : ChangeSpec := { name := "planMakes", fn := fun _ => fun
  | [d1, d2, d3] => { results := [.lit (.bool true)], args := [d1, d2, d3] }
  | _ => none }
def planMakesRow : OpenClaim := { program := "yticejfomcekolaadoor", sum := "03110c94170428178df702bcc1dd7beb21b3277481aa3448a595862276654dda", func := "intaglio/intagliolaw04.PlanMakes", spec := "planMakes", inPlace := ["sync/atomic.AddInt64", "internal/reflectlite.ValueOf", "(internal/reflectlite.Value).Type", "(internal/reflectlite.Value).IsNil", "internal/reflectlite.TypeOf", "(internal/reflectlite.Value).Elem", "(internal/reflectlite.Value).Set", "sync/atomic.LoadInt64"], unfollowed := true, recurses := true, named := ["errors.errorType"], apart := false, laid := [("errors.errorType", laid_errors_errorType)] }
def PlanMakesSaid : Prop := planMakesRow.holds Tryd.pinned (OpenSpec.ofChange planMakesSpec)

/-- ITS FALSE NEIGHBOUR: 'it returns false'. Refute it at one input. -/
def planMakesWrong : ChangeSpec := { name := "planMakes", fn := fun _ => fun
  | [d1, d2, d3] => { results := [.lit (.bool false)], args := [d1, d2, d3] }
  | _ => none }
def PlanMakesWrongFalsely : Prop := planMakesRow.holds Tryd.pinned (OpenSpec.ofChange planMakesWrong)

/- THE SECOND FORM. 'bulk': how many values and letters a reading holds, each counted each time it is reached (what is shared counts as often as it is met; a slice's spare places count too). A statement '..UptoSaid' is the law's where the arguments, and the package variables that the reading takes, are together of bulk at most 1048576: NARROWER than '..Said'. Prove '..Said' where nothing that the law and all that it calls make is longer than what came in: it says more and counts as full. Else prove '..UptoSaid'. A law counts once. -/
mutual
def uptoBulk {H : Type} : DataW H → Nat
  | .lit (.string bytes) => bytes.length + 1
  | .lit _ => 1
  | .nil => 1
  | .ptr d => uptoBulk d + 1
  | .slice elems spare => uptoBulkAll elems + uptoBulkAll spare + 1
  | .agg parts => uptoBulkAll parts + 1
  | .iface _ d => uptoBulk d + 1
  | .map entries => uptoBulkEntries entries + 1
  | .held _ => 1
def uptoBulkAll {H : Type} : List (DataW H) → Nat
  | [] => 0
  | d :: r => uptoBulk d + uptoBulkAll r
def uptoBulkEntries {H : Type} : List (Lit × DataW H) → Nat
  | [] => 0
  | x :: r => uptoBulkEntry x + uptoBulkEntries r
def uptoBulkEntry {H : Type} : Lit × DataW H → Nat
  | (.string bytes, d) => bytes.length + uptoBulk d + 1
  | (_, d) => uptoBulk d + 1
 end
def uptoSmall : (H : Type) → List (DataW H) → Bool := fun _ ds => decide (uptoBulkAll ds ≤ 1048576)
def OpenSpec.upto (s : _root_.Go.ChangeSpec) : _root_.Go.OpenSpec := { _root_.Go.OpenSpec.ofChange s with cond := some uptoSmall }

/-- 'intagliolaw03.ArenaMakes', WHERE WHAT IT READS IS OF BULK AT MOST 1048576: true; the input reads as it did. -/
def arenaMakesUptoRow : OpenClaim := { program := "yticejfomcekolaadoor", sum := "03110c94170428178df702bcc1dd7beb21b3277481aa3448a595862276654dda", func := "intaglio/intagliolaw03.ArenaMakes", spec := "arenaMakes", inPlace := ["sync/atomic.AddInt64", "sync/atomic.LoadInt64", "internal/reflectlite.ValueOf", "(internal/reflectlite.Value).Type", "(internal/reflectlite.Value).IsNil", "internal/reflectlite.TypeOf", "(internal/reflectlite.Value).Elem", "(internal/reflectlite.Value).Set"], unfollowed := true, recurses := true, named := ["errors.errorType"], apart := false, laid := [("errors.errorType", laid_errors_errorType)], narrowed := true }
def ArenaMakesUptoSaid : Prop := arenaMakesUptoRow.holds Tryd.pinned (OpenSpec.upto arenaMakesSpec)

/-- 'intagliolaw03.ArenaNil', WHERE WHAT IT READS IS OF BULK AT MOST 1048576: true; the input reads as it did. -/
def arenaNilUptoRow : OpenClaim := { program := "yticejfomcekolaadoor", sum := "03110c94170428178df702bcc1dd7beb21b3277481aa3448a595862276654dda", func := "intaglio/intagliolaw03.ArenaNil", spec := "arenaNil", inPlace := ["sync/atomic.AddInt64", "sync/atomic.LoadInt64", "internal/reflectlite.ValueOf", "(internal/reflectlite.Value).Type", "(internal/reflectlite.Value).IsNil", "internal/reflectlite.TypeOf", "(internal/reflectlite.Value).Elem", "(internal/reflectlite.Value).Set"], unfollowed := true, recurses := true, named := ["errors.errorType"], apart := false, laid := [("errors.errorType", laid_errors_errorType)], narrowed := true }
def ArenaNilUptoSaid : Prop := arenaNilUptoRow.holds Tryd.pinned (OpenSpec.upto arenaNilSpec)

/-- 'intagliolaw03.ArenaOwn', WHERE WHAT IT READS IS OF BULK AT MOST 1048576: true; the input reads as it did. -/
def arenaOwnUptoRow : OpenClaim := { program := "yticejfomcekolaadoor", sum := "03110c94170428178df702bcc1dd7beb21b3277481aa3448a595862276654dda", func := "intaglio/intagliolaw03.ArenaOwn", spec := "arenaOwn", inPlace := ["sync/atomic.AddInt64", "internal/reflectlite.ValueOf", "(internal/reflectlite.Value).Type", "(internal/reflectlite.Value).IsNil", "internal/reflectlite.TypeOf", "(internal/reflectlite.Value).Elem", "(internal/reflectlite.Value).Set", "sync/atomic.LoadInt64"], unfollowed := true, recurses := true, named := ["errors.errorType"], apart := false, laid := [("errors.errorType", laid_errors_errorType)], narrowed := true }
def ArenaOwnUptoSaid : Prop := arenaOwnUptoRow.holds Tryd.pinned (OpenSpec.upto arenaOwnSpec)

/-- 'intagliolaw04.PlanOnce', WHERE WHAT IT READS IS OF BULK AT MOST 1048576: true; the input reads as it did. -/
def planOnceUptoRow : OpenClaim := { program := "yticejfomcekolaadoor", sum := "03110c94170428178df702bcc1dd7beb21b3277481aa3448a595862276654dda", func := "intaglio/intagliolaw04.PlanOnce", spec := "planOnce", inPlace := ["internal/reflectlite.ValueOf", "(internal/reflectlite.Value).Type", "(internal/reflectlite.Value).IsNil", "internal/reflectlite.TypeOf", "(internal/reflectlite.Value).Elem", "(internal/reflectlite.Value).Set"], unfollowed := true, recurses := true, named := ["errors.errorType"], apart := false, laid := [("errors.errorType", laid_errors_errorType)], narrowed := true }
def PlanOnceUptoSaid : Prop := planOnceUptoRow.holds Tryd.pinned (OpenSpec.upto planOnceSpec)

/-- 'intagliolaw04.PlanTells', WHERE WHAT IT READS IS OF BULK AT MOST 1048576: true; the input reads as it did. -/
def planTellsUptoRow : OpenClaim := { program := "yticejfomcekolaadoor", sum := "03110c94170428178df702bcc1dd7beb21b3277481aa3448a595862276654dda", func := "intaglio/intagliolaw04.PlanTells", spec := "planTells", inPlace := ["internal/reflectlite.ValueOf", "(internal/reflectlite.Value).Type", "(internal/reflectlite.Value).IsNil", "internal/reflectlite.TypeOf", "(internal/reflectlite.Value).Elem", "(internal/reflectlite.Value).Set"], unfollowed := true, recurses := true, named := ["errors.errorType"], apart := false, laid := [("errors.errorType", laid_errors_errorType)], narrowed := true }
def PlanTellsUptoSaid : Prop := planTellsUptoRow.holds Tryd.pinned (OpenSpec.upto planTellsSpec)

/-- 'intagliolaw04.PlanNil', WHERE WHAT IT READS IS OF BULK AT MOST 1048576: true; the input reads as it did. -/
def planNilUptoRow : OpenClaim := { program := "yticejfomcekolaadoor", sum := "03110c94170428178df702bcc1dd7beb21b3277481aa3448a595862276654dda", func := "intaglio/intagliolaw04.PlanNil", spec := "planNil", inPlace := ["sync/atomic.AddInt64", "internal/reflectlite.ValueOf", "(internal/reflectlite.Value).Type", "(internal/reflectlite.Value).IsNil", "internal/reflectlite.TypeOf", "(internal/reflectlite.Value).Elem", "(internal/reflectlite.Value).Set"], unfollowed := true, recurses := true, named := ["errors.errorType"], apart := false, laid := [("errors.errorType", laid_errors_errorType)], narrowed := true }
def PlanNilUptoSaid : Prop := planNilUptoRow.holds Tryd.pinned (OpenSpec.upto planNilSpec)

/-- 'intagliolaw04.PlanMakes', WHERE WHAT IT READS IS OF BULK AT MOST 1048576: true; the input reads as it did. -/
def planMakesUptoRow : OpenClaim := { program := "yticejfomcekolaadoor", sum := "03110c94170428178df702bcc1dd7beb21b3277481aa3448a595862276654dda", func := "intaglio/intagliolaw04.PlanMakes", spec := "planMakes", inPlace := ["sync/atomic.AddInt64", "internal/reflectlite.ValueOf", "(internal/reflectlite.Value).Type", "(internal/reflectlite.Value).IsNil", "internal/reflectlite.TypeOf", "(internal/reflectlite.Value).Elem", "(internal/reflectlite.Value).Set", "sync/atomic.LoadInt64"], unfollowed := true, recurses := true, named := ["errors.errorType"], apart := false, laid := [("errors.errorType", laid_errors_errorType)], narrowed := true }
def PlanMakesUptoSaid : Prop := planMakesUptoRow.holds Tryd.pinned (OpenSpec.upto planMakesSpec)

end Rows
end Go.Proofs.YticejfomcekolaaDoor
