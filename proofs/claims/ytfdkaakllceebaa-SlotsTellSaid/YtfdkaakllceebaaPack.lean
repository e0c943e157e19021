/- A config's word. -/
import Derived.Test.YtfdkaakllceebaaPlanZ
import Derived.Test.YtfdkaakllceebaaBits
namespace Go.Proofs.Ytfdkaakllceebaa
open Go Go.Hx
set_option maxRecDepth 8000



def ctE : Nat → Option Hx.Spec
  | 70 => some (pureS rightS)
  | 68 => some (pureS rightS)
  | _ => none
theorem ctE_ok : ∀ f s args H ob V L, ctE f = some s → s args H = some (ob, V, L) → AllP ob → Gives Try.prog f args H (Is V L) := by
  intro f s args H ob V L h hs ho
  unfold ctE at h
  split at h
  · simp at h; subst h; exact pureS_ok ⟨_, hTE⟩ (rightS_ok right70) hs ho
  · simp at h; subst h; exact pureS_ok ⟨_, hTE⟩ (rightS_ok right68) hs ho
  · simp at h
noncomputable def XE : Tabs := tabs tr ft xt (fun _ => none) ctE 20
theorem hXE : TOk Try.prog XE := ⟨hTE, hFT, ctE_ok, hXT, fun t ks h => by simp [XE, tabs] at h, mixed⟩

/-- A right config's word. -/
def packV (a0 a1 a2 a3 a4 a5 a6 a7 a8 : Int) : Int := a0 + 128 * a1 + 16384 * a2 + 2097152 * a3 + 268435456 * a8 + 34359738368 * a4 + 4398046511104 * a5 + 562949953421312 * a6 + 72057594037927936 * a7

theorem wu7 {x : Int} (h1 : 0 ≤ x) (h2 : x < 18446744073709551616) : IntKind.u64.wrap x = x := by
  rw [IntKind.wrap_u64]; omega

section
variable {a0 a1 a2 a3 a4 a5 a6 a7 a8 : Int}

set_option maxHeartbeats 4000000 in
theorem rpack_fn (hr : rightB a0 a1 a2 a3 a4 a5 a6 a7 a8 = true) : Gives Try.prog 60 [C9 a0 a1 a2 a3 a4 a5 a6 a7 a8] [] (Is (.int .u64 (packV a0 a1 a2 a3 a4 a5 a6 a7 a8)) []) := by
  refine gives_x hXE (fn := Try.f60) rfl rfl rfl rfl fun ρ w => ?_
  have hr' := right_iff.1 hr
  have u0 := wu7 (x := a0) (by omega) (by omega)
  have u1 := wu7 (x := a1) (by omega) (by omega)
  have u2 := wu7 (x := a2) (by omega) (by omega)
  have u3 := wu7 (x := a3) (by omega) (by omega)
  have u4 := wu7 (x := a4) (by omega) (by omega)
  have u5 := wu7 (x := a5) (by omega) (by omega)
  have u6 := wu7 (x := a6) (by omega) (by omega)
  have u7 := wu7 (x := a7) (by omega) (by omega)
  have u8 := wu7 (x := a8) (by omega) (by omega)
  refine sx hXE (.F :: List.replicate 10 .C) 2000 rfl (by simp [conjP, addOP, hr, IntKind.wrap_i64]) ?_
  refine ss_end hXE [] rfl rfl trivial rfl rfl rfl rfl ⟨rfl, ?_⟩ trivial (by (repeat' (first | exact rfl | exact trivial | exact sim_refl _ | refine And.intro ?_ ?_))) trivial
  simp [packV, IntKind.wrap_i64, u0, u1, u2, u3, u4, u5, u6, u7, u8]
  simp only [IntKind.wrap_u64]
  omega
end
def rpackS : List SV → Option (List Prop × SV)
  | [.agg [.int .i64 a0, .int .i64 a1, .int .i64 a2, .int .i64 a3, .int .i64 a4, .int .i64 a5, .int .i64 a6, .int .i64 a7, .int .i64 a8]] => some ([rightB a0 a1 a2 a3 a4 a5 a6 a7 a8 = true], .int .u64 (packV a0 a1 a2 a3 a4 a5 a6 a7 a8))
  | _ => none
theorem rpackS_ok : PureOk 60 rpackS := by
  intro args ob V hs ho
  unfold rpackS at hs
  split at hs
  · simp at hs; obtain ⟨rfl, rfl⟩ := hs; exact ⟨rfl, rfl, rpack_fn (ho _ (by simp))⟩
  · simp at hs
end Go.Proofs.Ytfdkaakllceebaa
