/-
  No cell of these rows narrows 'for every input' (looked for: loops, veiled, ifaces, maps, wideKeys, modest, calm, conditions, laid).
  DERIVED. THE GIVEN ROWS OF THIS SEAT. 5 by the template 'for every input the law returns true; each argument reads behind the call as it read before'; 0 by the template 'total and deterministic' (their statements: YtmghcelohnlceaaTotals.lean).
  GIVEN WITH THE SEED: the statements are not yours to turn. If you find one false, say at which input.
  Laid BY PROGRAM, IN A SANDBOX (cutbox-rows.mjs): the forced cells as the released guide's own fill.sh prints them over the translation 1b549d000a8ae849… (all of the seat's roots in one cut). By AI agents, Wed Nov 11 2026. No macro, syntax, notation, axiom, sorry.
-/
import Derived.Test.YtmghcelohnlceaaChecked
import GoSem.Claim
import GoSem.ClaimJoined
import GoSem.ClaimMapViews
import Derived.JoinedTies
import Derived.KernelRfl
namespace Go.Proofs.Ytmghcelohnlceaa
/- THE CELL 'sum', in the pinned program and in every row, IS THE sha256 OF THE DUMP (.gsa) THAT YtmghcelohnlceaaProg.lean LOADS. Nothing in Lean hashes anything: it is a label: what it is worth is what the hold of that sum in a sandbox is worth. -/
noncomputable def Try.pinned : Pinned := { name := "ytmghcelohnlceaa", sum := "1b549d000a8ae8494fb4aa04b898843c33f0c06a90b70958dddcf3ba79e8efc8", checked := Try.checked }
namespace Rows
def none {H : Type} : Left H := { results := [], args := [] }

/-- 'intagliolaw11.PoolApart': WHATEVER THE INPUT: true; the input reads as it did. -/
def poolApartSpec : ChangeSpec := { name := "poolApart", fn := fun _ => fun
  | [d1, d2] => { results := [.lit (.bool true)], args := [d1, d2] }
  | _ => none }
def poolApartRow : OpenClaim := { program := "ytmghcelohnlceaa", sum := "1b549d000a8ae8494fb4aa04b898843c33f0c06a90b70958dddcf3ba79e8efc8", func := "intaglio/intagliolaw11.PoolApart", spec := "poolApart", inPlace := ["sync/atomic.AddInt64"], unfollowed := true, recurses := true, apart := false }
def PoolApartSaid : Prop := poolApartRow.holds Try.pinned (OpenSpec.ofChange poolApartSpec)

/-- ITS FALSE NEIGHBOUR: 'it returns false'. Refute it at one input. -/
def poolApartWrong : ChangeSpec := { name := "poolApart", fn := fun _ => fun
  | [d1, d2] => { results := [.lit (.bool false)], args := [d1, d2] }
  | _ => none }
def PoolApartWrongFalsely : Prop := poolApartRow.holds Try.pinned (OpenSpec.ofChange poolApartWrong)

/-- 'intagliolaw11.PoolAlone': WHATEVER THE INPUT: true; the input reads as it did. -/
def poolAloneSpec : ChangeSpec := { name := "poolAlone", fn := fun _ => fun
  | [d1, d2, d3] => { results := [.lit (.bool true)], args := [d1, d2, d3] }
  | _ => none }
def poolAloneRow : OpenClaim := { program := "ytmghcelohnlceaa", sum := "1b549d000a8ae8494fb4aa04b898843c33f0c06a90b70958dddcf3ba79e8efc8", func := "intaglio/intagliolaw11.PoolAlone", spec := "poolAlone", inPlace := ["sync/atomic.AddInt64"], unfollowed := true, recurses := true, apart := false }
def PoolAloneSaid : Prop := poolAloneRow.holds Try.pinned (OpenSpec.ofChange poolAloneSpec)

/-- ITS FALSE NEIGHBOUR: 'it returns false'. Refute it at one input. -/
def poolAloneWrong : ChangeSpec := { name := "poolAlone", fn := fun _ => fun
  | [d1, d2, d3] => { results := [.lit (.bool false)], args := [d1, d2, d3] }
  | _ => none }
def PoolAloneWrongFalsely : Prop := poolAloneRow.holds Try.pinned (OpenSpec.ofChange poolAloneWrong)

/-- 'intagliolaw11.PoolStack': WHATEVER THE INPUT: true; the input reads as it did. -/
def poolStackSpec : ChangeSpec := { name := "poolStack", fn := fun _ => fun
  | [d1, d2, d3] => { results := [.lit (.bool true)], args := [d1, d2, d3] }
  | _ => none }
def poolStackRow : OpenClaim := { program := "ytmghcelohnlceaa", sum := "1b549d000a8ae8494fb4aa04b898843c33f0c06a90b70958dddcf3ba79e8efc8", func := "intaglio/intagliolaw11.PoolStack", spec := "poolStack", inPlace := ["sync/atomic.AddInt64"], unfollowed := true, recurses := true, apart := false }
def PoolStackSaid : Prop := poolStackRow.holds Try.pinned (OpenSpec.ofChange poolStackSpec)

/-- ITS FALSE NEIGHBOUR: 'it returns false'. Refute it at one input. -/
def poolStackWrong : ChangeSpec := { name := "poolStack", fn := fun _ => fun
  | [d1, d2, d3] => { results := [.lit (.bool false)], args := [d1, d2, d3] }
  | _ => none }
def PoolStackWrongFalsely : Prop := poolStackRow.holds Try.pinned (OpenSpec.ofChange poolStackWrong)

/-- 'intagliolaw11.PoolNil': WHATEVER THE INPUT: true; the input reads as it did. -/
def poolNilSpec : ChangeSpec := { name := "poolNil", fn := fun _ => fun
  | [d1, d2, d3] => { results := [.lit (.bool true)], args := [d1, d2, d3] }
  | _ => none }
def poolNilRow : OpenClaim := { program := "ytmghcelohnlceaa", sum := "1b549d000a8ae8494fb4aa04b898843c33f0c06a90b70958dddcf3ba79e8efc8", func := "intaglio/intagliolaw11.PoolNil", spec := "poolNil", inPlace := ["sync/atomic.AddInt64", "sync/atomic.LoadInt64"], unfollowed := true, recurses := true, apart := false }
def PoolNilSaid : Prop := poolNilRow.holds Try.pinned (OpenSpec.ofChange poolNilSpec)

/-- ITS FALSE NEIGHBOUR: 'it returns false'. Refute it at one input. -/
def poolNilWrong : ChangeSpec := { name := "poolNil", fn := fun _ => fun
  | [d1, d2, d3] => { results := [.lit (.bool false)], args := [d1, d2, d3] }
  | _ => none }
def PoolNilWrongFalsely : Prop := poolNilRow.holds Try.pinned (OpenSpec.ofChange poolNilWrong)

/-- 'intagliolaw11.PoolPlays': WHATEVER THE INPUT: true; the input reads as it did. -/
def poolPlaysSpec : ChangeSpec := { name := "poolPlays", fn := fun _ => fun
  | [d1, d2] => { results := [.lit (.bool true)], args := [d1, d2] }
  | _ => none }
def poolPlaysRow : OpenClaim := { program := "ytmghcelohnlceaa", sum := "1b549d000a8ae8494fb4aa04b898843c33f0c06a90b70958dddcf3ba79e8efc8", func := "intaglio/intagliolaw11.PoolPlays", spec := "poolPlays", inPlace := ["sync/atomic.AddInt64", "sync/atomic.LoadInt64"], unfollowed := true, recurses := true, apart := false }
def PoolPlaysSaid : Prop := poolPlaysRow.holds Try.pinned (OpenSpec.ofChange poolPlaysSpec)

/-- ITS FALSE NEIGHBOUR: 'it returns false'. Refute it at one input. -/
def poolPlaysWrong : ChangeSpec := { name := "poolPlays", fn := fun _ => fun
  | [d1, d2] => { results := [.lit (.bool false)], args := [d1, d2] }
  | _ => none }
def PoolPlaysWrongFalsely : Prop := poolPlaysRow.holds Try.pinned (OpenSpec.ofChange poolPlaysWrong)

/- THE SECOND FORM. 'bulk': how many values and letters a reading holds, each counted each time it is reached (what is shared counts as often as it is met; a slice's spare places count too). A statement '..UptoSaid' is the law's where the arguments, and the package variables that the reading takes, are together of bulk at most 1048576: NARROWER than '..Said'. Prove '..Said' where nothing that the law and all that it calls make is longer than what came in: it says more and counts as full. Else prove '..UptoSaid'. A law counts once. -/
mutual
def uptoBulk {H : Type} : DataW H → Nat
  | .lit (.string bytes) => bytes.length + 1
  | .lit _ => 1
  | .nil => 1
  | .ptr d => uptoBulk d + 1
  | .slice elems spare => uptoBulkAll elems + uptoBulkAll spare + 1
  | .agg parts => uptoBulkAll parts + 1
  | .iface _ d => uptoBulk d + 1
  | .map entries => uptoBulkEntries entries + 1
  | .held _ => 1
def uptoBulkAll {H : Type} : List (DataW H) → Nat
  | [] => 0
  | d :: r => uptoBulk d + uptoBulkAll r
def uptoBulkEntries {H : Type} : List (Lit × DataW H) → Nat
  | [] => 0
  | x :: r => uptoBulkEntry x + uptoBulkEntries r
def uptoBulkEntry {H : Type} : Lit × DataW H → Nat
  | (.string bytes, d) => bytes.length + uptoBulk d + 1
  | (_, d) => uptoBulk d + 1
 end
def uptoSmall : (H : Type) → List (DataW H) → Bool := fun _ ds => decide (uptoBulkAll ds ≤ 1048576)
def OpenSpec.upto (s : _root_.Go.ChangeSpec) : _root_.Go.OpenSpec := { _root_.Go.OpenSpec.ofChange s with cond := some uptoSmall }

/-- 'intagliolaw11.PoolApart', WHERE WHAT IT READS IS OF BULK AT MOST 1048576: true; the input reads as it did. -/
def poolApartUptoRow : OpenClaim := { program := "ytmghcelohnlceaa", sum := "1b549d000a8ae8494fb4aa04b898843c33f0c06a90b70958dddcf3ba79e8efc8", func := "intaglio/intagliolaw11.PoolApart", spec := "poolApart", inPlace := ["sync/atomic.AddInt64"], unfollowed := true, recurses := true, apart := false, narrowed := true }
def PoolApartUptoSaid : Prop := poolApartUptoRow.holds Try.pinned (OpenSpec.upto poolApartSpec)

/-- 'intagliolaw11.PoolAlone', WHERE WHAT IT READS IS OF BULK AT MOST 1048576: true; the input reads as it did. -/
def poolAloneUptoRow : OpenClaim := { program := "ytmghcelohnlceaa", sum := "1b549d000a8ae8494fb4aa04b898843c33f0c06a90b70958dddcf3ba79e8efc8", func := "intaglio/intagliolaw11.PoolAlone", spec := "poolAlone", inPlace := ["sync/atomic.AddInt64"], unfollowed := true, recurses := true, apart := false, narrowed := true }
def PoolAloneUptoSaid : Prop := poolAloneUptoRow.holds Try.pinned (OpenSpec.upto poolAloneSpec)

/-- 'intagliolaw11.PoolStack', WHERE WHAT IT READS IS OF BULK AT MOST 1048576: true; the input reads as it did. -/
def poolStackUptoRow : OpenClaim := { program := "ytmghcelohnlceaa", sum := "1b549d000a8ae8494fb4aa04b898843c33f0c06a90b70958dddcf3ba79e8efc8", func := "intaglio/intagliolaw11.PoolStack", spec := "poolStack", inPlace := ["sync/atomic.AddInt64"], unfollowed := true, recurses := true, apart := false, narrowed := true }
def PoolStackUptoSaid : Prop := poolStackUptoRow.holds Try.pinned (OpenSpec.upto poolStackSpec)

/-- 'intagliolaw11.PoolNil', WHERE WHAT IT READS IS OF BULK AT MOST 1048576: true; the input reads as it did. -/
def poolNilUptoRow : OpenClaim := { program := "ytmghcelohnlceaa", sum := "1b549d000a8ae8494fb4aa04b898843c33f0c06a90b70958dddcf3ba79e8efc8", func := "intaglio/intagliolaw11.PoolNil", spec := "poolNil", inPlace := ["sync/atomic.AddInt64", "sync/atomic.LoadInt64"], unfollowed := true, recurses := true, apart := false, narrowed := true }
def PoolNilUptoSaid : Prop := poolNilUptoRow.holds Try.pinned (OpenSpec.upto poolNilSpec)

/-- 'intagliolaw11.PoolPlays', WHERE WHAT IT READS IS OF BULK AT MOST 1048576: true; the input reads as it did. -/
def poolPlaysUptoRow : OpenClaim := { program := "ytmghcelohnlceaa", sum := "1b549d000a8ae8494fb4aa04b898843c33f0c06a90b70958dddcf3ba79e8efc8", func := "intaglio/intagliolaw11.PoolPlays", spec := "poolPlays", inPlace := ["sync/atomic.AddInt64", "sync/atomic.LoadInt64"], unfollowed := true, recurses := true, apart := false, narrowed := true }
def PoolPlaysUptoSaid : Prop := poolPlaysUptoRow.holds Try.pinned (OpenSpec.upto poolPlaysSpec)

end Rows
end Go.Proofs.Ytmghcelohnlceaa
