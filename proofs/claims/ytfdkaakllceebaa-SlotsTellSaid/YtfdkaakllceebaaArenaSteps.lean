/- An arena's steps. -/
import Derived.Test.YtfdkaakllceebaaRefMake
import Derived.Test.YtfdkaakllceebaaHyc
namespace Go.Proofs.Ytfdkaakllceebaa
open Go Go.Hx
set_option maxRecDepth 8000


/-- An arena that has no trouble: its words, its steps, the last one. -/
structure Ar where
  (W : List Int) (st kd wd vl : Int) (ch : Bool)
abbrev WO (W : List Int) : HE := .obj (.ints .u64 W 56)


section
variable {s : Ar} {i : Int} (h0 : 0 ≤ i) (h1 : i < s.W.length) (hs : 0 ≤ s.st) (hs' : s.st < 9000000000000000000)
include h0 h1 hs hs'
end

/-! In any heap. -/

/-! What arenas are made. -/
end Go.Proofs.Ytfdkaakllceebaa
