/- Where a block lies. -/
import Derived.Test.YtkkddjchkkaagaaGreatDoorPlanB
namespace Go.Proofs.YtkkddjchkkaagaaGreatDoor
open Go Go.Hx
set_option maxRecDepth 8000



section
variable {a0 a1 a2 a3 a4 a5 a6 a7 a8 : Int} (hr : rightB a0 a1 a2 a3 a4 a5 a6 a7 a8 = true)
include hr
theorem block_fn (i : Int) (hi : -9223372036854775808 ≤ i) (hi' : i < 9223372036854775808) : Gives Tryz.prog 97 [C9 a0 a1 a2 a3 a4 a5 a6 a7 a8, .int .i64 i] [] (Is (.int .i64 (blockV a0 a1 a2 a4 a5 a6 a7 i)) []) := by
  have hr' := right_iff.1 hr
  refine gives_x hXC (fn := Tryz.f97) rfl rfl rfl rfl fun ρ w => ?_
  have hw : IntKind.i64.wrap (i - 1) = i - 1 ∨ (i = -9223372036854775808 ∧ IntKind.i64.wrap (i - 1) = 9223372036854775807) := by rw [IntKind.wrap_i64]; omega
  by_cases h1 : IntKind.i64.wrap (i - 1) < 0
  · refine sx hXC [.F, .T] 200 rfl (by simp [conjP, hr]; omega) ?_
    exact ss_end hXC [] rfl rfl trivial rfl rfl rfl rfl ⟨rfl, by rw [blockV, if_neg (by omega)]⟩ trivial (by (repeat' (first | exact rfl | exact trivial | exact sim_refl _ | refine And.intro ?_ ?_))) trivial
  · by_cases h2 : a5 + a7 ≤ IntKind.i64.wrap (i - 1)
    · refine sx hXC [.F, .F, .T] 200 rfl (by simp [conjP, hr]; omega) ?_
      exact ss_end hXC [] rfl rfl trivial rfl rfl rfl rfl ⟨rfl, by rw [blockV, if_neg (by omega)]⟩ trivial (by (repeat' (first | exact rfl | exact trivial | exact sim_refl _ | refine And.intro ?_ ?_))) trivial
    · refine sx hXC [.F, .F, .F] 400 rfl (by simp [conjP, hr]; omega) ?_
      refine ss_end hXC [] rfl rfl trivial rfl rfl rfl rfl ⟨rfl, ?_⟩ trivial (by (repeat' (first | exact rfl | exact trivial | exact sim_refl _ | refine And.intro ?_ ?_))) trivial
      have eb : blockV a0 a1 a2 a4 a5 a6 a7 i = atV a0 a1 a2 a4 a5 a6 i := by rw [blockV, if_pos (by omega)]
      have ew : IntKind.i64.wrap (i - 1) = i - 1 := by omega
      have q1 := minV_le (i - 1) a5
      have m0 := mulB (x := a0) (y := 1 + 2 * a1) (X := 8) (Y := 65) (by omega) (by omega) (by omega) (by omega)
      have m1 := mulB (x := minV (i - 1) a5) (y := 1 + a4) (X := 12) (Y := 97) (by omega) (by omega) (by omega) (by omega)
      have m2 := mulB (x := i - 1 - minV (i - 1) a5) (y := 1 + a6) (X := 24) (Y := 97) (by omega) (by omega) (by omega) (by omega)
      have em : ∀ x y : Int, (if y < x then y else x) = minV x y := fun _ _ => rfl
      rw [eb, atV]
      simp only [ew, em]
      simp only [wi64 (n := 2 * a1) (by omega) (by omega), wi64 (n := 1 + 2 * a1) (by omega) (by omega), wi64 (n := 5 + a2) (by omega) (by omega), wi64 (n := 5 + a2 + a0) (by omega) (by omega), wi64 (n := 1 + a4) (by omega) (by omega), wi64 (n := 1 + a6) (by omega) (by omega),
        wi64 (n := a0 * (1 + 2 * a1)) (by omega) (by omega), wi64 (n := i - 1 - minV (i - 1) a5) (by omega) (by omega), wi64 (n := minV (i - 1) a5 * (1 + a4)) (by omega) (by omega), wi64 (n := (i - 1 - minV (i - 1) a5) * (1 + a6)) (by omega) (by omega), wi64 (n := 5 + a2 + a0 + a0 * (1 + 2 * a1)) (by omega) (by omega),
        wi64 (n := 5 + a2 + a0 + a0 * (1 + 2 * a1) + minV (i - 1) a5 * (1 + a4)) (by omega) (by omega), wi64 (n := 5 + a2 + a0 + a0 * (1 + 2 * a1) + minV (i - 1) a5 * (1 + a4) + (i - 1 - minV (i - 1) a5) * (1 + a6)) (by omega) (by omega)]


end
end Go.Proofs.YtkkddjchkkaagaaGreatDoor
