/- How many words and blocks a config has. -/
import Derived.Test.YtfdkaakllceebaaPack
import Derived.Test.YtfdkaakllceebaaCfgL
namespace Go.Proofs.Ytfdkaakllceebaa
open Go Go.Hx
set_option maxRecDepth 8000


section
variable {a0 a1 a2 a3 a4 a5 a6 a7 a8 : Int}

theorem blocks_fn : Gives Try.prog 46 [C9 a0 a1 a2 a3 a4 a5 a6 a7 a8] [] (Is (.int .i64 (if rightB a0 a1 a2 a3 a4 a5 a6 a7 a8 then a5 + a7 else 0)) []) := by
  refine gives_x hXR (fn := Try.f46) rfl rfl rfl rfl fun ρ w => ?_
  by_cases hr : rightB a0 a1 a2 a3 a4 a5 a6 a7 a8 = true
  · have hr' := right_iff.1 hr
    refine sx hXR [.F] 200 rfl (by simp [conjP, hr]) ?_
    exact ss_end hXR [] rfl rfl trivial rfl rfl rfl rfl ⟨rfl, by simp [hr]; exact wi64 (by omega) (by omega)⟩ trivial (by (repeat' (first | exact rfl | exact trivial | exact sim_refl _ | refine And.intro ?_ ?_))) trivial
  · refine sx hXR [.T] 200 rfl (by simp [conjP, hr]) ?_
    exact ss_end hXR [] rfl rfl trivial rfl rfl rfl rfl ⟨rfl, by simp [hr]⟩ trivial (by (repeat' (first | exact rfl | exact trivial | exact sim_refl _ | refine And.intro ?_ ?_))) trivial

theorem size_fn : Gives Try.prog 43 [C9 a0 a1 a2 a3 a4 a5 a6 a7 a8] [] (Is (.int .i64 (if rightB a0 a1 a2 a3 a4 a5 a6 a7 a8 then sizeV a0 a1 a2 a4 a5 a6 a7 else 0)) []) := by
  refine gives_x hXR (fn := Try.f43) rfl rfl rfl rfl fun ρ w => ?_
  by_cases hr : rightB a0 a1 a2 a3 a4 a5 a6 a7 a8 = true
  · have hr' := right_iff.1 hr
    refine sx hXR [.F, .C, .C, .C] 400 rfl (by simp [conjP, hr, IntKind.wrap_i64]) ?_
    refine ss_end hXR [] rfl rfl trivial rfl rfl rfl rfl ⟨rfl, ?_⟩ trivial (by (repeat' (first | exact rfl | exact trivial | exact sim_refl _ | refine And.intro ?_ ?_))) trivial
    simp only [hr, if_true, sizeV]
    have m1 := mulB (x := a0) (y := 1 + 2 * a1) (X := 8) (Y := 65) (by omega) (by omega) (by omega) (by omega)
    have m2 := mulB (x := a5) (y := 1 + a4) (X := 12) (Y := 97) (by omega) (by omega) (by omega) (by omega)
    have m3 := mulB (x := a7) (y := 1 + a6) (X := 12) (Y := 97) (by omega) (by omega) (by omega) (by omega)
    simp only [wi64 (n := 2 * a1) (by omega) (by omega), wi64 (n := 1 + 2 * a1) (by omega) (by omega), wi64 (n := 5 + a2) (by omega) (by omega), wi64 (n := 5 + a2 + a0) (by omega) (by omega), wi64 (n := 1 + a4) (by omega) (by omega), wi64 (n := 1 + a6) (by omega) (by omega),
      wi64 (n := a0 * (1 + 2 * a1)) (by omega) (by omega), wi64 (n := a5 * (1 + a4)) (by omega) (by omega), wi64 (n := a7 * (1 + a6)) (by omega) (by omega), wi64 (n := 5 + a2 + a0 + a0 * (1 + 2 * a1)) (by omega) (by omega), wi64 (n := 5 + a2 + a0 + a0 * (1 + 2 * a1) + a5 * (1 + a4)) (by omega) (by omega), wi64 (n := 5 + a2 + a0 + a0 * (1 + 2 * a1) + a5 * (1 + a4) + a7 * (1 + a6)) (by omega) (by omega)]
  · refine sx hXR [.T] 200 rfl (by simp [conjP, hr]) ?_
    exact ss_end hXR [] rfl rfl trivial rfl rfl rfl rfl ⟨rfl, by simp [hr]⟩ trivial (by (repeat' (first | exact rfl | exact trivial | exact sim_refl _ | refine And.intro ?_ ?_))) trivial
end
end Go.Proofs.Ytfdkaakllceebaa
