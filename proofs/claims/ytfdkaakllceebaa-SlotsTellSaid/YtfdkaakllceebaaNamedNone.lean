/- Named blocks: words of another number, and no config. -/
import Derived.Test.YtfdkaakllceebaaDocNamedAll
import Derived.Test.YtfdkaakllceebaaNamedSeen
namespace Go.Proofs.Ytfdkaakllceebaa
open Go Go.Hx
set_option maxRecDepth 8000
set_option maxHeartbeats 8000000 in
theorem named_sh {W : List Int} {o l c : Nat} (h : ¬ (l : Int) = sizeV 1 4 8 4 2 6 2) : Gives Try.prog 35 [C9 1 4 8 4 4 2 6 2 2, .slice 0 o l c] [WO W] (Is .nilslice [WO W]) := by
  have hX := hXNm
  have hr := right12
  refine gives_x hX (fn := Try.f35) rfl rfl rfl rfl fun ρ w => ?_
  refine sx hX [] 4000 rfl (by (simp [-List.getD_eq_getElem?_getD, -List.length_eq_zero_iff, conjP])) ?_
  refine sx hX [.F] 4000 rfl (by (simp [-List.getD_eq_getElem?_getD, -List.length_eq_zero_iff, conjP, addOP, hr])) ?_
  refine sx hX [.T] 4000 rfl (by (simp [-List.getD_eq_getElem?_getD, -List.length_eq_zero_iff, conjP, addOP, hr, h])) ?_
  (refine ss_end hX [0] rfl rfl trivial rfl rfl rfl rfl ?tt ?hh ?ot ?ok; (case tt => exact clhN); (case hh => exact clhN); (case ot => exact clkN); (case ok => exact clkN))
set_option maxHeartbeats 8000000 in
theorem rnamed_sh {W : List Int} {o l c : Nat} (h : ¬ (l : Int) = sizeV 1 4 8 4 2 6 2) : Gives Try.prog 36 [C9 1 4 8 4 4 2 6 2 2, .slice 0 o l c] [WO W] (Is .nilslice [WO W]) := by
  have hX := hXRn
  have hr := right12
  refine gives_x hX (fn := Try.f36) rfl rfl rfl rfl fun ρ w => ?_
  refine sx hX [] 4000 rfl (by (simp [-List.getD_eq_getElem?_getD, -List.length_eq_zero_iff, conjP])) ?_
  refine sx hX [.F] 4000 rfl (by (simp [-List.getD_eq_getElem?_getD, -List.length_eq_zero_iff, conjP, hr])) ?_
  refine sx hX [.T] 4000 rfl (by (simp [-List.getD_eq_getElem?_getD, -List.length_eq_zero_iff, conjP, addOP, h])) ?_
  (refine ss_end hX [0] rfl rfl trivial rfl rfl rfl rfl ?tt ?hh ?ot ?ok; (case tt => exact clhN); (case hh => exact clhN); (case ot => exact clkN); (case ok => exact clkN))
set_option maxHeartbeats 8000000 in
theorem named_zero {W : List Int} {o l c : Nat} : Gives Try.prog 35 [C9 0 0 0 0 0 0 0 0 0, .slice 0 o l c] [WO W] (Is .nilslice [WO W]) := by
  have hX := hXNm
  have hr : rightB 0 0 0 0 0 0 0 0 0 = false := by decide
  refine gives_x hX (fn := Try.f35) rfl rfl rfl rfl fun ρ w => ?_
  refine sx hX [] 4000 rfl (by (simp [-List.getD_eq_getElem?_getD, -List.length_eq_zero_iff, conjP])) ?_
  refine sx hX [.T] 4000 rfl (by (simp [-List.getD_eq_getElem?_getD, -List.length_eq_zero_iff, conjP, addOP, hr])) ?_
  refine sx hX [.F] 4000 rfl (by (simp [-List.getD_eq_getElem?_getD, -List.length_eq_zero_iff, conjP, addOP])) ?_
  (refine ss_end hX [0] rfl rfl trivial rfl rfl rfl rfl ?tt ?hh ?ot ?ok; (case tt => exact clhN); (case hh => exact clhN); (case ot => exact clkN); (case ok => exact clkN))
end Go.Proofs.Ytfdkaakllceebaa
