/- Control words: the program's functions of them, and the document's own, for any word. -/
import Derived.Test.YtkkddjchkkaagaaGreatDoorControl
import Derived.Test.YtkkddjchkkaagaaGreatDoorPlanA
namespace Go.Proofs.YtkkddjchkkaagaaGreatDoor
open Go Go.Hx
set_option maxRecDepth 8000
/-! The words that others become. -/
def unpkS : List SV → Option (List Prop × SV)
  | [.int .u64 w] => some ([0 ≤ w, w < 18446744073709551616], ctV w)
  | _ => none
theorem unpkS_ok : PureOk 174 unpkS := by
  intro args ob V hs ho
  unfold unpkS at hs
  split at hs
  · simp only [Option.some.injEq, Prod.mk.injEq] at hs
    obtain ⟨rfl, rfl⟩ := hs
    have o1 := ho _ (List.mem_cons_self ..)
    have o2 := ho _ (List.mem_cons_of_mem _ (List.mem_cons_self ..))
    exact ⟨rfl, rfl, unpk_fn o1 o2⟩
  · simp at hs
/-! The document's. -/
end Go.Proofs.YtkkddjchkkaagaaGreatDoor
