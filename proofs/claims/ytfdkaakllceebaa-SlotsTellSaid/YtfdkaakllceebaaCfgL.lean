/- Numbers that a statement makes of what came in. -/
import Derived.Test.YtfdkaakllceebaaRight
namespace Go.Proofs.Ytfdkaakllceebaa
open Go Go.Hx
set_option maxRecDepth 8000


def cAnd (m x : Int) : Int := IntKind.i64.wrap (1 + ibits .and .i64 x m)
end Go.Proofs.Ytfdkaakllceebaa
