/- What the frame of SlotsNil's row wants of the walk. -/
import Derived.Test.YtfdkaakllceebaaNil
namespace Go.Proofs.Ytfdkaakllceebaa.slotsNil
open Go Go.Hx
theorem walk (n : Int) (_ : (Lit.int .i64 n).wf = true) (c : Int) (_ : (Lit.int .i64 c).wf = true) (s : Int) (_ : (Lit.int .i64 s).wf = true) :
    Gives Try.prog 3 [.int .i64 n, .int .i64 c, .int .i64 s] [] (Is .tt []) := slotsNil_fn n c s
end Go.Proofs.Ytfdkaakllceebaa.slotsNil
