/- Pr2: a text of this seat. -/
import Derived.Test.YtfdkaakllceebaaTables
import Derived.Test.YtfdkaakllceebaaHyc
namespace Go.Proofs.Ytfdkaakllceebaa
open Go Go.Hx
set_option maxRecDepth 8000

theorem wi64 {n : Int} (h1 : -9223372036854775808 ≤ n) (h2 : n < 9223372036854775808) : IntKind.i64.wrap n = n := by
  rw [IntKind.wrap_i64]; omega
theorem wu64 {n : Int} (h1 : 0 ≤ n) (h2 : n < 18446744073709551616) : IntKind.u64.wrap n = n := by
  rw [IntKind.wrap_u64]; omega

noncomputable def Xp : Tabs := tabs tr ft xt (fun _ => none) (fun _ => none) 20
theorem hXp : TOk Try.prog Xp := ⟨hTE, hFT, fun f s args H ob V L h => by simp [Xp, tabs] at h, hXT, fun t ks h => by simp [Xp, tabs] at h, mixed⟩

/-- A config's numbers: is it right? -/
def rightB (a0 a1 a2 a3 a4 a5 a6 a7 a8 : Int) : Bool := decide (1 ≤ a0 ∧ a0 ≤ 8 ∧ 4 ≤ a1 ∧ a1 ≤ 32 ∧ 1 ≤ a2 ∧ a2 ≤ 8 ∧ 1 ≤ a3 ∧ a3 ≤ 8 ∧ 1 ≤ a8 ∧ a8 ≤ 8 ∧ 4 ≤ a4 ∧ a4 ≤ 96 ∧ 0 ≤ a5 ∧ a5 ≤ 12 ∧ 4 ≤ a6 ∧ a6 ≤ 96 ∧ 0 ≤ a7 ∧ a7 ≤ 12 ∧ a4 < a6)
theorem rightB_f {a0 a1 a2 a3 a4 a5 a6 a7 a8 : Int} (h : ¬ (1 ≤ a0 ∧ a0 ≤ 8 ∧ 4 ≤ a1 ∧ a1 ≤ 32 ∧ 1 ≤ a2 ∧ a2 ≤ 8 ∧ 1 ≤ a3 ∧ a3 ≤ 8 ∧ 1 ≤ a8 ∧ a8 ≤ 8 ∧ 4 ≤ a4 ∧ a4 ≤ 96 ∧ 0 ≤ a5 ∧ a5 ≤ 12 ∧ 4 ≤ a6 ∧ a6 ≤ 96 ∧ 0 ≤ a7 ∧ a7 ≤ 12 ∧ a4 < a6)) : rightB a0 a1 a2 a3 a4 a5 a6 a7 a8 = false := decide_eq_false h

set_option maxHeartbeats 4000000 in
theorem right70 (a0 a1 a2 a3 a4 a5 a6 a7 a8 : Int) : Gives Try.prog 70 [.agg [.int .i64 a0, .int .i64 a1, .int .i64 a2, .int .i64 a3, .int .i64 a4, .int .i64 a5, .int .i64 a6, .int .i64 a7, .int .i64 a8]] [] (Is (.bool (rightB a0 a1 a2 a3 a4 a5 a6 a7 a8)) []) := by
  refine gives_x hXp (fn := Try.f70) rfl rfl rfl rfl fun ρ0 w0 => ?_
  by_cases la0 : a0 < 1
  · skip
    refine sx hXp [.C, .T] 4000 rfl (by simp [conjP, IntKind.wrap_i64]; omega) ?_
    exact ss_end hXp [] rfl rfl trivial rfl rfl rfl rfl (show rightB a0 a1 a2 a3 a4 a5 a6 a7 a8 = false from rightB_f (by omega)) trivial trivial trivial
  by_cases ga0 : 8 < a0
  · skip
    refine sx hXp [.C, .F, .T] 4000 rfl (by simp [conjP, IntKind.wrap_i64]; omega) ?_
    exact ss_end hXp [] rfl rfl trivial rfl rfl rfl rfl (show rightB a0 a1 a2 a3 a4 a5 a6 a7 a8 = false from rightB_f (by omega)) trivial trivial trivial
  by_cases la1 : a1 < 4
  · skip
    refine sx hXp [.C, .F, .F, .C, .T] 4000 rfl (by simp [conjP, IntKind.wrap_i64]; omega) ?_
    exact ss_end hXp [] rfl rfl trivial rfl rfl rfl rfl (show rightB a0 a1 a2 a3 a4 a5 a6 a7 a8 = false from rightB_f (by omega)) trivial trivial trivial
  by_cases ga1 : 32 < a1
  · skip
    refine sx hXp [.C, .F, .F, .C, .F, .T] 4000 rfl (by simp [conjP, IntKind.wrap_i64]; omega) ?_
    exact ss_end hXp [] rfl rfl trivial rfl rfl rfl rfl (show rightB a0 a1 a2 a3 a4 a5 a6 a7 a8 = false from rightB_f (by omega)) trivial trivial trivial
  by_cases la2 : a2 < 1
  · skip
    refine sx hXp [.C, .F, .F, .C, .F, .F, .C, .T] 4000 rfl (by simp [conjP, IntKind.wrap_i64]; omega) ?_
    exact ss_end hXp [] rfl rfl trivial rfl rfl rfl rfl (show rightB a0 a1 a2 a3 a4 a5 a6 a7 a8 = false from rightB_f (by omega)) trivial trivial trivial
  by_cases ga2 : 8 < a2
  · skip
    refine sx hXp [.C, .F, .F, .C, .F, .F, .C, .F, .T] 4000 rfl (by simp [conjP, IntKind.wrap_i64]; omega) ?_
    exact ss_end hXp [] rfl rfl trivial rfl rfl rfl rfl (show rightB a0 a1 a2 a3 a4 a5 a6 a7 a8 = false from rightB_f (by omega)) trivial trivial trivial
  by_cases la3 : a3 < 1
  · skip
    refine sx hXp [.C, .F, .F, .C, .F, .F, .C, .F, .F, .C, .T] 4000 rfl (by simp [conjP, IntKind.wrap_i64]; omega) ?_
    exact ss_end hXp [] rfl rfl trivial rfl rfl rfl rfl (show rightB a0 a1 a2 a3 a4 a5 a6 a7 a8 = false from rightB_f (by omega)) trivial trivial trivial
  by_cases ga3 : 8 < a3
  · skip
    refine sx hXp [.C, .F, .F, .C, .F, .F, .C, .F, .F, .C, .F, .T] 4000 rfl (by simp [conjP, IntKind.wrap_i64]; omega) ?_
    exact ss_end hXp [] rfl rfl trivial rfl rfl rfl rfl (show rightB a0 a1 a2 a3 a4 a5 a6 a7 a8 = false from rightB_f (by omega)) trivial trivial trivial
  by_cases la8 : a8 < 1
  · skip
    refine sx hXp [.C, .F, .F, .C, .F, .F, .C, .F, .F, .C, .F, .F, .C, .T] 4000 rfl (by simp [conjP, IntKind.wrap_i64]; omega) ?_
    exact ss_end hXp [] rfl rfl trivial rfl rfl rfl rfl (show rightB a0 a1 a2 a3 a4 a5 a6 a7 a8 = false from rightB_f (by omega)) trivial trivial trivial
  by_cases ga8 : 8 < a8
  · skip
    refine sx hXp [.C, .F, .F, .C, .F, .F, .C, .F, .F, .C, .F, .F, .C, .F, .T] 4000 rfl (by simp [conjP, IntKind.wrap_i64]; omega) ?_
    exact ss_end hXp [] rfl rfl trivial rfl rfl rfl rfl (show rightB a0 a1 a2 a3 a4 a5 a6 a7 a8 = false from rightB_f (by omega)) trivial trivial trivial
  by_cases la4 : a4 < 4
  · skip
    refine sx hXp [.C, .F, .F, .C, .F, .F, .C, .F, .F, .C, .F, .F, .C, .F, .F, .C, .T] 4000 rfl (by simp [conjP, IntKind.wrap_i64]; omega) ?_
    exact ss_end hXp [] rfl rfl trivial rfl rfl rfl rfl (show rightB a0 a1 a2 a3 a4 a5 a6 a7 a8 = false from rightB_f (by omega)) trivial trivial trivial
  by_cases ga4 : 96 < a4
  · skip
    refine sx hXp [.C, .F, .F, .C, .F, .F, .C, .F, .F, .C, .F, .F, .C, .F, .F, .C, .F, .T] 4000 rfl (by simp [conjP, IntKind.wrap_i64]; omega) ?_
    exact ss_end hXp [] rfl rfl trivial rfl rfl rfl rfl (show rightB a0 a1 a2 a3 a4 a5 a6 a7 a8 = false from rightB_f (by omega)) trivial trivial trivial
  by_cases la5 : a5 < 0
  · skip
    refine sx hXp [.C, .F, .F, .C, .F, .F, .C, .F, .F, .C, .F, .F, .C, .F, .F, .C, .F, .F, .C, .T] 4000 rfl (by simp [conjP, IntKind.wrap_i64]; omega) ?_
    exact ss_end hXp [] rfl rfl trivial rfl rfl rfl rfl (show rightB a0 a1 a2 a3 a4 a5 a6 a7 a8 = false from rightB_f (by omega)) trivial trivial trivial
  by_cases ga5 : 12 < a5
  · skip
    refine sx hXp [.C, .F, .F, .C, .F, .F, .C, .F, .F, .C, .F, .F, .C, .F, .F, .C, .F, .F, .C, .F, .T] 4000 rfl (by simp [conjP, IntKind.wrap_i64]; omega) ?_
    exact ss_end hXp [] rfl rfl trivial rfl rfl rfl rfl (show rightB a0 a1 a2 a3 a4 a5 a6 a7 a8 = false from rightB_f (by omega)) trivial trivial trivial
  by_cases la6 : a6 < 4
  · skip
    refine sx hXp [.C, .F, .F, .C, .F, .F, .C, .F, .F, .C, .F, .F, .C, .F, .F, .C, .F, .F, .C, .F, .F, .C, .T] 4000 rfl (by simp [conjP, IntKind.wrap_i64]; omega) ?_
    exact ss_end hXp [] rfl rfl trivial rfl rfl rfl rfl (show rightB a0 a1 a2 a3 a4 a5 a6 a7 a8 = false from rightB_f (by omega)) trivial trivial trivial
  by_cases ga6 : 96 < a6
  · skip
    refine sx hXp [.C, .F, .F, .C, .F, .F, .C, .F, .F, .C, .F, .F, .C, .F, .F, .C, .F, .F, .C, .F, .F, .C, .F, .T] 4000 rfl (by simp [conjP, IntKind.wrap_i64]; omega) ?_
    exact ss_end hXp [] rfl rfl trivial rfl rfl rfl rfl (show rightB a0 a1 a2 a3 a4 a5 a6 a7 a8 = false from rightB_f (by omega)) trivial trivial trivial
  by_cases la7 : a7 < 0
  · skip
    refine sx hXp [.C, .F, .F, .C, .F, .F, .C, .F, .F, .C, .F, .F, .C, .F, .F, .C, .F, .F, .C, .F, .F, .C, .F, .F, .C, .T] 4000 rfl (by simp [conjP, IntKind.wrap_i64]; omega) ?_
    exact ss_end hXp [] rfl rfl trivial rfl rfl rfl rfl (show rightB a0 a1 a2 a3 a4 a5 a6 a7 a8 = false from rightB_f (by omega)) trivial trivial trivial
  by_cases ga7 : 12 < a7
  · skip
    refine sx hXp [.C, .F, .F, .C, .F, .F, .C, .F, .F, .C, .F, .F, .C, .F, .F, .C, .F, .F, .C, .F, .F, .C, .F, .F, .C, .F, .T] 4000 rfl (by simp [conjP, IntKind.wrap_i64]; omega) ?_
    exact ss_end hXp [] rfl rfl trivial rfl rfl rfl rfl (show rightB a0 a1 a2 a3 a4 a5 a6 a7 a8 = false from rightB_f (by omega)) trivial trivial trivial
  refine sx hXp [.C, .F, .F, .C, .F, .F, .C, .F, .F, .C, .F, .F, .C, .F, .F, .C, .F, .F, .C, .F, .F, .C, .F, .F, .C, .F, .F, .C] 4000 rfl (by simp [conjP, IntKind.wrap_i64]; omega) ?_
  exact ss_end hXp [] rfl rfl trivial rfl rfl rfl rfl (show decide (a4 < a6) = rightB a0 a1 a2 a3 a4 a5 a6 a7 a8 from by simp only [rightB]; exact decide_eq_decide.2 (by omega)) trivial trivial trivial

set_option maxHeartbeats 4000000 in
theorem right68 (a0 a1 a2 a3 a4 a5 a6 a7 a8 : Int) : Gives Try.prog 68 [.agg [.int .i64 a0, .int .i64 a1, .int .i64 a2, .int .i64 a3, .int .i64 a4, .int .i64 a5, .int .i64 a6, .int .i64 a7, .int .i64 a8]] [] (Is (.bool (rightB a0 a1 a2 a3 a4 a5 a6 a7 a8)) []) := by
  refine gives_x hXp (fn := Try.f68) rfl rfl rfl rfl fun ρ0 w0 => ?_
  by_cases la0 : a0 < 1
  · skip
    refine sx hXp [.F] 4000 rfl (by simp [conjP]; omega) ?_
    exact ss_end hXp [] rfl rfl trivial rfl rfl rfl rfl (show rightB a0 a1 a2 a3 a4 a5 a6 a7 a8 = false from rightB_f (by omega)) trivial trivial trivial
  by_cases ga0 : 8 < a0
  · skip
    refine sx hXp [.T, .F] 4000 rfl (by simp [conjP]; omega) ?_
    exact ss_end hXp [] rfl rfl trivial rfl rfl rfl rfl (show rightB a0 a1 a2 a3 a4 a5 a6 a7 a8 = false from rightB_f (by omega)) trivial trivial trivial
  by_cases la1 : a1 < 4
  · skip
    refine sx hXp [.T, .T, .F] 4000 rfl (by simp [conjP]; omega) ?_
    exact ss_end hXp [] rfl rfl trivial rfl rfl rfl rfl (show rightB a0 a1 a2 a3 a4 a5 a6 a7 a8 = false from rightB_f (by omega)) trivial trivial trivial
  by_cases ga1 : 32 < a1
  · skip
    refine sx hXp [.T, .T, .T, .F] 4000 rfl (by simp [conjP]; omega) ?_
    exact ss_end hXp [] rfl rfl trivial rfl rfl rfl rfl (show rightB a0 a1 a2 a3 a4 a5 a6 a7 a8 = false from rightB_f (by omega)) trivial trivial trivial
  by_cases la2 : a2 < 1
  · skip
    refine sx hXp [.T, .T, .T, .T, .F] 4000 rfl (by simp [conjP]; omega) ?_
    exact ss_end hXp [] rfl rfl trivial rfl rfl rfl rfl (show rightB a0 a1 a2 a3 a4 a5 a6 a7 a8 = false from rightB_f (by omega)) trivial trivial trivial
  by_cases ga2 : 8 < a2
  · skip
    refine sx hXp [.T, .T, .T, .T, .T, .F] 4000 rfl (by simp [conjP]; omega) ?_
    exact ss_end hXp [] rfl rfl trivial rfl rfl rfl rfl (show rightB a0 a1 a2 a3 a4 a5 a6 a7 a8 = false from rightB_f (by omega)) trivial trivial trivial
  by_cases la3 : a3 < 1
  · skip
    refine sx hXp [.T, .T, .T, .T, .T, .T, .F] 4000 rfl (by simp [conjP]; omega) ?_
    exact ss_end hXp [] rfl rfl trivial rfl rfl rfl rfl (show rightB a0 a1 a2 a3 a4 a5 a6 a7 a8 = false from rightB_f (by omega)) trivial trivial trivial
  by_cases ga3 : 8 < a3
  · skip
    refine sx hXp [.T, .T, .T, .T, .T, .T, .T, .F] 4000 rfl (by simp [conjP]; omega) ?_
    exact ss_end hXp [] rfl rfl trivial rfl rfl rfl rfl (show rightB a0 a1 a2 a3 a4 a5 a6 a7 a8 = false from rightB_f (by omega)) trivial trivial trivial
  by_cases la8 : a8 < 1
  · skip
    refine sx hXp [.T, .T, .T, .T, .T, .T, .T, .T, .F] 4000 rfl (by simp [conjP]; omega) ?_
    exact ss_end hXp [] rfl rfl trivial rfl rfl rfl rfl (show rightB a0 a1 a2 a3 a4 a5 a6 a7 a8 = false from rightB_f (by omega)) trivial trivial trivial
  by_cases ga8 : 8 < a8
  · skip
    refine sx hXp [.T, .T, .T, .T, .T, .T, .T, .T, .T, .F] 4000 rfl (by simp [conjP]; omega) ?_
    exact ss_end hXp [] rfl rfl trivial rfl rfl rfl rfl (show rightB a0 a1 a2 a3 a4 a5 a6 a7 a8 = false from rightB_f (by omega)) trivial trivial trivial
  by_cases la4 : a4 < 4
  · skip
    refine sx hXp [.T, .T, .T, .T, .T, .T, .T, .T, .T, .T, .F] 4000 rfl (by simp [conjP]; omega) ?_
    exact ss_end hXp [] rfl rfl trivial rfl rfl rfl rfl (show rightB a0 a1 a2 a3 a4 a5 a6 a7 a8 = false from rightB_f (by omega)) trivial trivial trivial
  by_cases ga4 : 96 < a4
  · skip
    refine sx hXp [.T, .T, .T, .T, .T, .T, .T, .T, .T, .T, .T, .F] 4000 rfl (by simp [conjP]; omega) ?_
    exact ss_end hXp [] rfl rfl trivial rfl rfl rfl rfl (show rightB a0 a1 a2 a3 a4 a5 a6 a7 a8 = false from rightB_f (by omega)) trivial trivial trivial
  have e4 : IntKind.i64.wrap (a4 + 1) = a4 + 1 := wi64 (by omega) (by omega)
  by_cases la6 : a6 < a4 + 1
  · skip
    refine sx hXp [.T, .T, .T, .T, .T, .T, .T, .T, .T, .T, .T, .T, .F] 4000 rfl (by simp [conjP, e4]; omega) ?_
    exact ss_end hXp [] rfl rfl trivial rfl rfl rfl rfl (show rightB a0 a1 a2 a3 a4 a5 a6 a7 a8 = false from rightB_f (by omega)) trivial trivial trivial
  by_cases ga6 : 96 < a6
  · skip
    refine sx hXp [.T, .T, .T, .T, .T, .T, .T, .T, .T, .T, .T, .T, .T, .F] 4000 rfl (by simp [conjP, e4]; omega) ?_
    exact ss_end hXp [] rfl rfl trivial rfl rfl rfl rfl (show rightB a0 a1 a2 a3 a4 a5 a6 a7 a8 = false from rightB_f (by omega)) trivial trivial trivial
  by_cases la5 : a5 < 0
  · skip
    refine sx hXp [.T, .T, .T, .T, .T, .T, .T, .T, .T, .T, .T, .T, .T, .T, .F] 4000 rfl (by simp [conjP, e4]; omega) ?_
    exact ss_end hXp [] rfl rfl trivial rfl rfl rfl rfl (show rightB a0 a1 a2 a3 a4 a5 a6 a7 a8 = false from rightB_f (by omega)) trivial trivial trivial
  by_cases ga5 : 12 < a5
  · skip
    refine sx hXp [.T, .T, .T, .T, .T, .T, .T, .T, .T, .T, .T, .T, .T, .T, .T, .F] 4000 rfl (by simp [conjP, e4]; omega) ?_
    exact ss_end hXp [] rfl rfl trivial rfl rfl rfl rfl (show rightB a0 a1 a2 a3 a4 a5 a6 a7 a8 = false from rightB_f (by omega)) trivial trivial trivial
  by_cases la7 : a7 < 0
  · skip
    refine sx hXp [.T, .T, .T, .T, .T, .T, .T, .T, .T, .T, .T, .T, .T, .T, .T, .T, .F] 4000 rfl (by simp [conjP, e4]; omega) ?_
    exact ss_end hXp [] rfl rfl trivial rfl rfl rfl rfl (show rightB a0 a1 a2 a3 a4 a5 a6 a7 a8 = false from rightB_f (by omega)) trivial trivial trivial
  refine sx hXp [.T, .T, .T, .T, .T, .T, .T, .T, .T, .T, .T, .T, .T, .T, .T, .T, .T] 4000 rfl (by simp [conjP, e4]; omega) ?_
  exact ss_end hXp [] rfl rfl trivial rfl rfl rfl rfl (show decide (a7 ≤ 12) = rightB a0 a1 a2 a3 a4 a5 a6 a7 a8 from by simp only [rightB]; exact decide_eq_decide.2 (by omega)) trivial trivial trivial
end Go.Proofs.Ytfdkaakllceebaa
