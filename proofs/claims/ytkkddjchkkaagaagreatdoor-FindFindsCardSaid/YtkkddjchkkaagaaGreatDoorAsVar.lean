/- From the row's words on errors.errorType to the variable's cell; a world in which it is laid. -/
import Derived.Test.YtkkddjchkkaagaaGreatDoorAsTop
import Derived.Test.YtkkddjchkkaagaaGreatDoorRows
import Derived.ChangeSame
import Derived.ChangeVars
import Derived.JoinedOf
import Derived.RowKit
import Derived.RowKitTokens
import Derived.LaidLaws
import Derived.LaidHandle
import Derived.Stop.Joined
namespace Go.Proofs.YtkkddjchkkaagaaGreatDoor
open Go.ChangeShapes Go.WideShapes Go.RowKit

theorem ownD : ownKnob Tryz.prog.godebug = none := by kernel_rfl
theorem laidOutD : laidOutB Tryz.prog = true := by kernel_rfl
theorem et_at : Tryz.prog.globalNamed "errors.errorType" = some 0 := by kernel_rfl
theorem rt_at : (Tryz.prog.cutTypes.find? (·.1 == "internal/reflectlite.rtype")).map (·.2) = some 208 := by kernel_rfl
theorem oneRow : ((List.range 277).filter fun t => Tryz.prog.rowNamed t [101, 114, 114, 111, 114]) = [27] := by kernel_rfl
theorem size_at : Tryz.prog.types.size = 277 := by kernel_rfl
abbrev laidL : List (String × DataW Unit) := [("errors.errorType", Rows.laid_errors_errorType)]

/-- What the condition gives a walk: the variable's one cell. -/
theorem heap_of_laid {W : World} (h : laidMetH Tryz.prog laidL W) : ∃ ty fr, W.heap[0]? = some (.cells #[RTV] ty fr) := by
  have h' : laidMet Tryz.prog [] W ∧ handlesMet Tryz.prog laidL W := h
  obtain ⟨name, u, ty, e1, e2, e3, e4, e5⟩ := h'.2 _ (List.mem_singleton.2 rfl)
  have en : name = [101, 114, 114, 111, 114] := (Option.some.inj e1).symm
  subst en
  obtain rfl := Option.some.inj (rt_at.symm.trans e2)
  have hm : ty ∈ (List.range 277).filter fun t => Tryz.prog.rowNamed t [101, 114, 114, 111, 114] := List.mem_filter.2 ⟨List.mem_range.2 (by rw [← size_at]; exact e3), e4⟩
  rw [oneRow] at hm
  obtain rfl := List.mem_singleton.1 hm
  have hh : typeHandle Tryz.prog 27 = .pointer (some ⟨1, 27, none⟩) := by kernel_rfl
  rw [hh] at e5
  simp only [World.var?, et_at, Option.bind_some] at e5
  split at e5
  · rename_i cs ty fr hc
    simp at e5
    subst e5
    exact ⟨ty, fr, hc⟩
  · simp at e5

/-- A world that meets the condition: the settled one, the variable's cell laid. -/
noncomputable def laidWorld (os : Os) : World :=
  let w0 := World.holding Tryz.prog os ⟨#[], #[], []⟩
  { w0 with heap := w0.heap.modify 0 fun
      | .cells _ t frozen => .cells #[RTV] t frozen
      | o => o }
theorem laidWorld_met (os : Os) (args : Array Value) : laidMetH Tryz.prog laidL ((laidWorld os).forCall (fun _ _ => 0) ⟨#[], args, []⟩).memory :=
  laidMetH_of_parts (laidMet_nil _ _) (by kernel_rfl)
theorem rtv_iface : ∃ t u, RTV = .iface t u := ⟨_, _, rfl⟩
end Go.Proofs.YtkkddjchkkaagaaGreatDoor
