/- The document's size of a config. -/
import Derived.Test.YtfdkaakllceebaaPlanC
namespace Go.Proofs.Ytfdkaakllceebaa
open Go Go.Hx
set_option maxRecDepth 8000

theorem rsize_fn {a0 a1 a2 a3 a4 a5 a6 a7 a8 : Int} (hr : rightB a0 a1 a2 a3 a4 a5 a6 a7 a8 = true) : Gives Try.prog 59 [C9 a0 a1 a2 a3 a4 a5 a6 a7 a8] [] (Is (.int .i64 (sizeV a0 a1 a2 a4 a5 a6 a7)) []) := by
  have hr' := right_iff.1 hr
  refine gives_x hXR (fn := Try.f59) rfl rfl rfl rfl fun ρ w => ?_
  refine sx hXR [.C, .C, .C] 400 rfl (by simp [conjP, addOP, getH, HE.so, IntKind.wrap_i64]) ?_
  refine ss_end hXR [] rfl rfl trivial rfl rfl rfl rfl ⟨rfl, ?_⟩ trivial (by (repeat' (first | exact rfl | exact trivial | exact sim_refl _ | refine And.intro ?_ ?_))) trivial
  have m1 := mulB (x := a0) (y := 1 + 2 * a1) (X := 8) (Y := 65) (by omega) (by omega) (by omega) (by omega)
  have m2 := mulB (x := a5) (y := 1 + a4) (X := 12) (Y := 97) (by omega) (by omega) (by omega) (by omega)
  have m3 := mulB (x := a7) (y := 1 + a6) (X := 12) (Y := 97) (by omega) (by omega) (by omega) (by omega)
  simp only [sizeV, wi64 (n := 2 * a1) (by omega) (by omega), wi64 (n := 1 + 2 * a1) (by omega) (by omega), wi64 (n := 5 + a2) (by omega) (by omega), wi64 (n := 5 + a2 + a0) (by omega) (by omega), wi64 (n := 1 + a4) (by omega) (by omega), wi64 (n := 1 + a6) (by omega) (by omega),
    wi64 (n := a0 * (1 + 2 * a1)) (by omega) (by omega), wi64 (n := a5 * (1 + a4)) (by omega) (by omega), wi64 (n := a7 * (1 + a6)) (by omega) (by omega), wi64 (n := 5 + a2 + a0 + a0 * (1 + 2 * a1)) (by omega) (by omega), wi64 (n := 5 + a2 + a0 + a0 * (1 + 2 * a1) + a5 * (1 + a4)) (by omega) (by omega), wi64 (n := 5 + a2 + a0 + a0 * (1 + 2 * a1) + a5 * (1 + a4) + a7 * (1 + a6)) (by omega) (by omega)]
end Go.Proofs.Ytfdkaakllceebaa
