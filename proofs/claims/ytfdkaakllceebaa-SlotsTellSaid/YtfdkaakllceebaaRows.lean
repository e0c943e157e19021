/-
  No cell of these rows narrows 'for every input' (looked for: loops, veiled, ifaces, maps, wideKeys, modest, calm, conditions, laid).
  DERIVED. THE GIVEN ROWS OF THIS SEAT. 6 by the template 'for every input the law returns true; each argument reads behind the call as it read before'; 0 by the template 'total and deterministic' (their statements: YtfdkaakllceebaaTotals.lean).
  GIVEN WITH THE SEED: the statements are not yours to turn. If you find one false, say at which input.
  Laid BY PROGRAM, IN A SANDBOX (cutbox-rows.mjs): the forced cells as the released guide's own fill.sh prints them over the translation 26c4ac784b022f36… (all of the seat's roots in one cut). By AI agents, Wed Nov 11 2026. No macro, syntax, notation, axiom, sorry.
-/
import Derived.Test.YtfdkaakllceebaaChecked
import GoSem.Claim
import GoSem.ClaimJoined
import GoSem.ClaimMapViews
import Derived.JoinedTies
import Derived.KernelRfl
namespace Go.Proofs.Ytfdkaakllceebaa
/- THE CELL 'sum', in the pinned program and in every row, IS THE sha256 OF THE DUMP (.gsa) THAT YtfdkaakllceebaaProg.lean LOADS. Nothing in Lean hashes anything: it is a label: what it is worth is what the hold of that sum in a sandbox is worth. -/
noncomputable def Try.pinned : Pinned := { name := "ytfdkaakllceebaa", sum := "26c4ac784b022f36b795f1df5ffd11e84176fbeb4db8a4d4886ecdd0d8617377", checked := Try.checked }
namespace Rows
def none {H : Type} : Left H := { results := [], args := [] }

/-- 'intagliolaw12.SlotsNil': WHATEVER THE INPUT: true; the input reads as it did. -/
def slotsNilSpec : ChangeSpec := { name := "slotsNil", fn := fun _ => fun
  | [d1, d2, d3] => { results := [.lit (.bool true)], args := [d1, d2, d3] }
  | _ => none }
def slotsNilRow : OpenClaim := { program := "ytfdkaakllceebaa", sum := "26c4ac784b022f36b795f1df5ffd11e84176fbeb4db8a4d4886ecdd0d8617377", func := "intaglio/intagliolaw12.SlotsNil", spec := "slotsNil", inPlace := ["sync/atomic.AddInt64"], unfollowed := true, recurses := true, apart := false }
def SlotsNilSaid : Prop := slotsNilRow.holds Try.pinned (OpenSpec.ofChange slotsNilSpec)

/-- ITS FALSE NEIGHBOUR: 'it returns false'. Refute it at one input. -/
def slotsNilWrong : ChangeSpec := { name := "slotsNil", fn := fun _ => fun
  | [d1, d2, d3] => { results := [.lit (.bool false)], args := [d1, d2, d3] }
  | _ => none }
def SlotsNilWrongFalsely : Prop := slotsNilRow.holds Try.pinned (OpenSpec.ofChange slotsNilWrong)

/-- 'intagliolaw12.SlotsApart': WHATEVER THE INPUT: true; the input reads as it did. -/
def slotsApartSpec : ChangeSpec := { name := "slotsApart", fn := fun _ => fun
  | [d1, d2] => { results := [.lit (.bool true)], args := [d1, d2] }
  | _ => none }
def slotsApartRow : OpenClaim := { program := "ytfdkaakllceebaa", sum := "26c4ac784b022f36b795f1df5ffd11e84176fbeb4db8a4d4886ecdd0d8617377", func := "intaglio/intagliolaw12.SlotsApart", spec := "slotsApart", inPlace := ["sync/atomic.AddInt64"], unfollowed := true, recurses := true, apart := false }
def SlotsApartSaid : Prop := slotsApartRow.holds Try.pinned (OpenSpec.ofChange slotsApartSpec)

/-- ITS FALSE NEIGHBOUR: 'it returns false'. Refute it at one input. -/
def slotsApartWrong : ChangeSpec := { name := "slotsApart", fn := fun _ => fun
  | [d1, d2] => { results := [.lit (.bool false)], args := [d1, d2] }
  | _ => none }
def SlotsApartWrongFalsely : Prop := slotsApartRow.holds Try.pinned (OpenSpec.ofChange slotsApartWrong)

/-- 'intagliolaw12.SlotsAlone': WHATEVER THE INPUT: true; the input reads as it did. -/
def slotsAloneSpec : ChangeSpec := { name := "slotsAlone", fn := fun _ => fun
  | [d1, d2, d3] => { results := [.lit (.bool true)], args := [d1, d2, d3] }
  | _ => none }
def slotsAloneRow : OpenClaim := { program := "ytfdkaakllceebaa", sum := "26c4ac784b022f36b795f1df5ffd11e84176fbeb4db8a4d4886ecdd0d8617377", func := "intaglio/intagliolaw12.SlotsAlone", spec := "slotsAlone", inPlace := ["sync/atomic.AddInt64", "sync/atomic.LoadInt64"], unfollowed := true, recurses := true, apart := false }
def SlotsAloneSaid : Prop := slotsAloneRow.holds Try.pinned (OpenSpec.ofChange slotsAloneSpec)

/-- ITS FALSE NEIGHBOUR: 'it returns false'. Refute it at one input. -/
def slotsAloneWrong : ChangeSpec := { name := "slotsAlone", fn := fun _ => fun
  | [d1, d2, d3] => { results := [.lit (.bool false)], args := [d1, d2, d3] }
  | _ => none }
def SlotsAloneWrongFalsely : Prop := slotsAloneRow.holds Try.pinned (OpenSpec.ofChange slotsAloneWrong)

/-- 'intagliolaw12.SlotsPlay': WHATEVER THE INPUT: true; the input reads as it did. -/
def slotsPlaySpec : ChangeSpec := { name := "slotsPlay", fn := fun _ => fun
  | [d1, d2] => { results := [.lit (.bool true)], args := [d1, d2] }
  | _ => none }
def slotsPlayRow : OpenClaim := { program := "ytfdkaakllceebaa", sum := "26c4ac784b022f36b795f1df5ffd11e84176fbeb4db8a4d4886ecdd0d8617377", func := "intaglio/intagliolaw12.SlotsPlay", spec := "slotsPlay", inPlace := ["sync/atomic.AddInt64", "sync/atomic.LoadInt64"], unfollowed := true, recurses := true, apart := false }
def SlotsPlaySaid : Prop := slotsPlayRow.holds Try.pinned (OpenSpec.ofChange slotsPlaySpec)

/-- ITS FALSE NEIGHBOUR: 'it returns false'. Refute it at one input. -/
def slotsPlayWrong : ChangeSpec := { name := "slotsPlay", fn := fun _ => fun
  | [d1, d2] => { results := [.lit (.bool false)], args := [d1, d2] }
  | _ => none }
def SlotsPlayWrongFalsely : Prop := slotsPlayRow.holds Try.pinned (OpenSpec.ofChange slotsPlayWrong)

/-- 'intagliolaw12.SlotsTell': WHATEVER THE INPUT: true; the input reads as it did. -/
def slotsTellSpec : ChangeSpec := { name := "slotsTell", fn := fun _ => fun
  | [d1, d2, d3] => { results := [.lit (.bool true)], args := [d1, d2, d3] }
  | _ => none }
def slotsTellRow : OpenClaim := { program := "ytfdkaakllceebaa", sum := "26c4ac784b022f36b795f1df5ffd11e84176fbeb4db8a4d4886ecdd0d8617377", func := "intaglio/intagliolaw12.SlotsTell", spec := "slotsTell", unfollowed := true, recurses := true, apart := false }
def SlotsTellSaid : Prop := slotsTellRow.holds Try.pinned (OpenSpec.ofChange slotsTellSpec)

/-- ITS FALSE NEIGHBOUR: 'it returns false'. Refute it at one input. -/
def slotsTellWrong : ChangeSpec := { name := "slotsTell", fn := fun _ => fun
  | [d1, d2, d3] => { results := [.lit (.bool false)], args := [d1, d2, d3] }
  | _ => none }
def SlotsTellWrongFalsely : Prop := slotsTellRow.holds Try.pinned (OpenSpec.ofChange slotsTellWrong)

/-- 'intagliolaw12.SlotsNamed': WHATEVER THE INPUT: true; the input reads as it did. -/
def slotsNamedSpec : ChangeSpec := { name := "slotsNamed", fn := fun _ => fun
  | [d] => { results := [.lit (.bool true)], args := [d] }
  | _ => none }
def slotsNamedRow : OpenClaim := { program := "ytfdkaakllceebaa", sum := "26c4ac784b022f36b795f1df5ffd11e84176fbeb4db8a4d4886ecdd0d8617377", func := "intaglio/intagliolaw12.SlotsNamed", spec := "slotsNamed", unfollowed := true, recurses := true, apart := false }
def SlotsNamedSaid : Prop := slotsNamedRow.holds Try.pinned (OpenSpec.ofChange slotsNamedSpec)

/-- ITS FALSE NEIGHBOUR: 'it returns false'. Refute it at one input. -/
def slotsNamedWrong : ChangeSpec := { name := "slotsNamed", fn := fun _ => fun
  | [d] => { results := [.lit (.bool false)], args := [d] }
  | _ => none }
def SlotsNamedWrongFalsely : Prop := slotsNamedRow.holds Try.pinned (OpenSpec.ofChange slotsNamedWrong)

/- THE SECOND FORM. 'bulk': how many values and letters a reading holds, each counted each time it is reached (what is shared counts as often as it is met; a slice's spare places count too). A statement '..UptoSaid' is the law's where the arguments, and the package variables that the reading takes, are together of bulk at most 1048576: NARROWER than '..Said'. Prove '..Said' where nothing that the law and all that it calls make is longer than what came in: it says more and counts as full. Else prove '..UptoSaid'. A law counts once. -/
mutual
def uptoBulk {H : Type} : DataW H → Nat
  | .lit (.string bytes) => bytes.length + 1
  | .lit _ => 1
  | .nil => 1
  | .ptr d => uptoBulk d + 1
  | .slice elems spare => uptoBulkAll elems + uptoBulkAll spare + 1
  | .agg parts => uptoBulkAll parts + 1
  | .iface _ d => uptoBulk d + 1
  | .map entries => uptoBulkEntries entries + 1
  | .held _ => 1
def uptoBulkAll {H : Type} : List (DataW H) → Nat
  | [] => 0
  | d :: r => uptoBulk d + uptoBulkAll r
def uptoBulkEntries {H : Type} : List (Lit × DataW H) → Nat
  | [] => 0
  | x :: r => uptoBulkEntry x + uptoBulkEntries r
def uptoBulkEntry {H : Type} : Lit × DataW H → Nat
  | (.string bytes, d) => bytes.length + uptoBulk d + 1
  | (_, d) => uptoBulk d + 1
 end
def uptoSmall : (H : Type) → List (DataW H) → Bool := fun _ ds => decide (uptoBulkAll ds ≤ 1048576)
def OpenSpec.upto (s : _root_.Go.ChangeSpec) : _root_.Go.OpenSpec := { _root_.Go.OpenSpec.ofChange s with cond := some uptoSmall }

/-- 'intagliolaw12.SlotsNil', WHERE WHAT IT READS IS OF BULK AT MOST 1048576: true; the input reads as it did. -/
def slotsNilUptoRow : OpenClaim := { program := "ytfdkaakllceebaa", sum := "26c4ac784b022f36b795f1df5ffd11e84176fbeb4db8a4d4886ecdd0d8617377", func := "intaglio/intagliolaw12.SlotsNil", spec := "slotsNil", inPlace := ["sync/atomic.AddInt64"], unfollowed := true, recurses := true, apart := false, narrowed := true }
def SlotsNilUptoSaid : Prop := slotsNilUptoRow.holds Try.pinned (OpenSpec.upto slotsNilSpec)

/-- 'intagliolaw12.SlotsApart', WHERE WHAT IT READS IS OF BULK AT MOST 1048576: true; the input reads as it did. -/
def slotsApartUptoRow : OpenClaim := { program := "ytfdkaakllceebaa", sum := "26c4ac784b022f36b795f1df5ffd11e84176fbeb4db8a4d4886ecdd0d8617377", func := "intaglio/intagliolaw12.SlotsApart", spec := "slotsApart", inPlace := ["sync/atomic.AddInt64"], unfollowed := true, recurses := true, apart := false, narrowed := true }
def SlotsApartUptoSaid : Prop := slotsApartUptoRow.holds Try.pinned (OpenSpec.upto slotsApartSpec)

/-- 'intagliolaw12.SlotsAlone', WHERE WHAT IT READS IS OF BULK AT MOST 1048576: true; the input reads as it did. -/
def slotsAloneUptoRow : OpenClaim := { program := "ytfdkaakllceebaa", sum := "26c4ac784b022f36b795f1df5ffd11e84176fbeb4db8a4d4886ecdd0d8617377", func := "intaglio/intagliolaw12.SlotsAlone", spec := "slotsAlone", inPlace := ["sync/atomic.AddInt64", "sync/atomic.LoadInt64"], unfollowed := true, recurses := true, apart := false, narrowed := true }
def SlotsAloneUptoSaid : Prop := slotsAloneUptoRow.holds Try.pinned (OpenSpec.upto slotsAloneSpec)

/-- 'intagliolaw12.SlotsPlay', WHERE WHAT IT READS IS OF BULK AT MOST 1048576: true; the input reads as it did. -/
def slotsPlayUptoRow : OpenClaim := { program := "ytfdkaakllceebaa", sum := "26c4ac784b022f36b795f1df5ffd11e84176fbeb4db8a4d4886ecdd0d8617377", func := "intaglio/intagliolaw12.SlotsPlay", spec := "slotsPlay", inPlace := ["sync/atomic.AddInt64", "sync/atomic.LoadInt64"], unfollowed := true, recurses := true, apart := false, narrowed := true }
def SlotsPlayUptoSaid : Prop := slotsPlayUptoRow.holds Try.pinned (OpenSpec.upto slotsPlaySpec)

/-- 'intagliolaw12.SlotsTell', WHERE WHAT IT READS IS OF BULK AT MOST 1048576: true; the input reads as it did. -/
def slotsTellUptoRow : OpenClaim := { program := "ytfdkaakllceebaa", sum := "26c4ac784b022f36b795f1df5ffd11e84176fbeb4db8a4d4886ecdd0d8617377", func := "intaglio/intagliolaw12.SlotsTell", spec := "slotsTell", unfollowed := true, recurses := true, apart := false, narrowed := true }
def SlotsTellUptoSaid : Prop := slotsTellUptoRow.holds Try.pinned (OpenSpec.upto slotsTellSpec)

/-- 'intagliolaw12.SlotsNamed', WHERE WHAT IT READS IS OF BULK AT MOST 1048576: true; the input reads as it did. -/
def slotsNamedUptoRow : OpenClaim := { program := "ytfdkaakllceebaa", sum := "26c4ac784b022f36b795f1df5ffd11e84176fbeb4db8a4d4886ecdd0d8617377", func := "intaglio/intagliolaw12.SlotsNamed", spec := "slotsNamed", unfollowed := true, recurses := true, apart := false, narrowed := true }
def SlotsNamedUptoSaid : Prop := slotsNamedUptoRow.holds Try.pinned (OpenSpec.upto slotsNamedSpec)

end Rows
end Go.Proofs.Ytfdkaakllceebaa
