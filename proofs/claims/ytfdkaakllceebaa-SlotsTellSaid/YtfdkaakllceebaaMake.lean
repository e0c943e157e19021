/- What an arena is made as. -/
import Derived.Test.YtfdkaakllceebaaMakeLaw
namespace Go.Proofs.Ytfdkaakllceebaa
open Go Go.Hx
set_option maxRecDepth 8000


abbrev WOm (s : MkS) : HE := .obj (.ints .u64 s.W 56)



section
variable {a0 a1 a2 a3 a4 a5 a6 a7 a8 : Int}
end
end Go.Proofs.Ytfdkaakllceebaa
