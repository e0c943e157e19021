/- Contracts of what tells places, of a right config. -/
import Derived.Test.YtfdkaakllceebaaPlanA
namespace Go.Proofs.Ytfdkaakllceebaa
open Go Go.Hx
set_option maxRecDepth 8000


abbrev F9 := Int → Int → Int → Int → Int → Int → Int → Int → Int → Int → Int
def placeS (v : F9) : List SV → Option (List Prop × SV)
  | [.agg [.int .i64 a0, .int .i64 a1, .int .i64 a2, .int .i64 a3, .int .i64 a4, .int .i64 a5, .int .i64 a6, .int .i64 a7, .int .i64 a8], .int .i64 i] => some ([rightB a0 a1 a2 a3 a4 a5 a6 a7 a8 = true, -9223372036854775808 ≤ i, i < 9223372036854775808], .int .i64 (v a0 a1 a2 a3 a4 a5 a6 a7 a8 i))
  | _ => none
theorem placeS_ok {f : Nat} {v : F9} (h : ∀ {a0 a1 a2 a3 a4 a5 a6 a7 a8 : Int} (_ : rightB a0 a1 a2 a3 a4 a5 a6 a7 a8 = true) (i : Int) (_ : -9223372036854775808 ≤ i) (_ : i < 9223372036854775808), Gives Try.prog f [C9 a0 a1 a2 a3 a4 a5 a6 a7 a8, .int .i64 i] [] (Is (.int .i64 (v a0 a1 a2 a3 a4 a5 a6 a7 a8 i)) [])) : PureOk f (placeS v) := by
  intro args ob V hs ho
  unfold placeS at hs
  split at hs
  · simp at hs; obtain ⟨rfl, rfl⟩ := hs; exact ⟨rfl, rfl, h (ho _ (by simp)) _ (ho _ (by simp)) (ho _ (by simp))⟩
  · simp at hs

section
variable {a0 a1 a2 a3 a4 a5 a6 a7 a8 : Int} (hr : rightB a0 a1 a2 a3 a4 a5 a6 a7 a8 = true)
include hr
theorem slot_fn (i : Int) (_ : -9223372036854775808 ≤ i) (_ : i < 9223372036854775808) : Gives Try.prog 23 [C9 a0 a1 a2 a3 a4 a5 a6 a7 a8, .int .i64 i] [] (Is (.int .i64 (slotV a2 i)) []) := by
  have hr' := right_iff.1 hr
  refine gives_x hXR (fn := Try.f23) rfl rfl rfl rfl fun ρ w => ?_
  by_cases h1 : i < 0
  · refine sx hXR [.F, .T] 200 rfl (by simp [conjP, hr]; omega) ?_
    exact ss_end hXR [] rfl rfl trivial rfl rfl rfl rfl ⟨rfl, by rw [slotV, if_neg (by omega)]⟩ trivial (by (repeat' (first | exact rfl | exact trivial | exact sim_refl _ | refine And.intro ?_ ?_))) trivial
  · by_cases h2 : a2 ≤ i
    · refine sx hXR [.F, .F, .T] 200 rfl (by simp [conjP, hr]; omega) ?_
      exact ss_end hXR [] rfl rfl trivial rfl rfl rfl rfl ⟨rfl, by rw [slotV, if_neg (by omega)]⟩ trivial (by (repeat' (first | exact rfl | exact trivial | exact sim_refl _ | refine And.intro ?_ ?_))) trivial
    · refine sx hXR [.F, .F, .F] 200 rfl (by simp [conjP, hr]; omega) ?_
      refine ss_end hXR [] rfl rfl trivial rfl rfl rfl rfl ⟨rfl, ?_⟩ trivial (by (repeat' (first | exact rfl | exact trivial | exact sim_refl _ | refine And.intro ?_ ?_))) trivial
      rw [slotV, if_pos (by omega)]
      simp only [wi64 (n := 5 + i) (by omega) (by omega)]
theorem rslot_fn (i : Int) (_ : -9223372036854775808 ≤ i) (_ : i < 9223372036854775808) : Gives Try.prog 33 [C9 a0 a1 a2 a3 a4 a5 a6 a7 a8, .int .i64 i] [] (Is (.int .i64 (slotV a2 i)) []) := by
  have hr' := right_iff.1 hr
  refine gives_x hXR (fn := Try.f33) rfl rfl rfl rfl fun ρ w => ?_
  by_cases h1 : i < 0
  · refine sx hXR [.T] 200 rfl (by simp [conjP, hr]; omega) ?_
    exact ss_end hXR [] rfl rfl trivial rfl rfl rfl rfl ⟨rfl, by rw [slotV, if_neg (by omega)]⟩ trivial (by (repeat' (first | exact rfl | exact trivial | exact sim_refl _ | refine And.intro ?_ ?_))) trivial
  · by_cases h2 : a2 ≤ i
    · refine sx hXR [.F, .T] 200 rfl (by simp [conjP, hr]; omega) ?_
      exact ss_end hXR [] rfl rfl trivial rfl rfl rfl rfl ⟨rfl, by rw [slotV, if_neg (by omega)]⟩ trivial (by (repeat' (first | exact rfl | exact trivial | exact sim_refl _ | refine And.intro ?_ ?_))) trivial
    · refine sx hXR [.F, .F] 200 rfl (by simp [conjP, hr]; omega) ?_
      refine ss_end hXR [] rfl rfl trivial rfl rfl rfl rfl ⟨rfl, ?_⟩ trivial (by (repeat' (first | exact rfl | exact trivial | exact sim_refl _ | refine And.intro ?_ ?_))) trivial
      rw [slotV, if_pos (by omega)]
      simp only [wi64 (n := 5 + i) (by omega) (by omega)]
end
def slotF : F9 := fun _ _ a2 _ _ _ _ _ _ i => slotV a2 i
def classF : F9 := fun _ _ _ _ _ a5 _ a7 _ i => classV a5 a7 i
def blockF : F9 := fun a0 a1 a2 _ a4 a5 a6 a7 _ i => blockV a0 a1 a2 a4 a5 a6 a7 i

def blocksS : List SV → Option (List Prop × SV)
  | [.agg [.int .i64 a0, .int .i64 a1, .int .i64 a2, .int .i64 a3, .int .i64 a4, .int .i64 a5, .int .i64 a6, .int .i64 a7, .int .i64 a8]] => some ([], .int .i64 (if rightB a0 a1 a2 a3 a4 a5 a6 a7 a8 then a5 + a7 else 0))
  | _ => none
theorem blocksS_ok : PureOk 46 blocksS := by
  intro args ob V hs _
  unfold blocksS at hs
  split at hs
  · simp at hs; obtain ⟨rfl, rfl⟩ := hs; exact ⟨rfl, rfl, blocks_fn⟩
  · simp at hs
def sizeS : List SV → Option (List Prop × SV)
  | [.agg [.int .i64 a0, .int .i64 a1, .int .i64 a2, .int .i64 a3, .int .i64 a4, .int .i64 a5, .int .i64 a6, .int .i64 a7, .int .i64 a8]] => some ([], .int .i64 (if rightB a0 a1 a2 a3 a4 a5 a6 a7 a8 then sizeV a0 a1 a2 a4 a5 a6 a7 else 0))
  | _ => none
theorem sizeS_ok : PureOk 43 sizeS := by
  intro args ob V hs _
  unfold sizeS at hs
  split at hs
  · simp at hs; obtain ⟨rfl, rfl⟩ := hs; exact ⟨rfl, rfl, size_fn⟩
  · simp at hs

def ctC : Nat → Option Hx.Spec
  | 70 => some (pureS rightS)
  | 46 => some (pureS blocksS)
  | _ => none
theorem ctC_ok : ∀ f s args H ob V L, ctC f = some s → s args H = some (ob, V, L) → AllP ob → Gives Try.prog f args H (Is V L) := by
  intro f s args H ob V L h hs ho
  unfold ctC at h
  split at h
  · simp at h; subst h; exact pureS_ok ⟨_, hTE⟩ (rightS_ok right70) hs ho
  · simp at h; subst h; exact pureS_ok ⟨_, hTE⟩ (blocksS_ok) hs ho
  · simp at h
noncomputable def XC : Tabs := tabs tr ft xt (fun _ => none) ctC 20
theorem hXC : TOk Try.prog XC := ⟨hTE, hFT, ctC_ok, hXT, fun t ks h => by simp [XC, tabs] at h, mixed⟩

theorem minV_le (a b : Int) : minV a b ≤ a ∧ minV a b ≤ b ∧ (minV a b = a ∨ minV a b = b) := by
  unfold minV; split <;> omega

section
variable {a0 a1 a2 a3 a4 a5 a6 a7 a8 : Int} (hr : rightB a0 a1 a2 a3 a4 a5 a6 a7 a8 = true)
include hr

theorem rclass_fn (i : Int) (hi : -9223372036854775808 ≤ i) (hi' : i < 9223372036854775808) : Gives Try.prog 62 [C9 a0 a1 a2 a3 a4 a5 a6 a7 a8, .int .i64 i] [] (Is (.int .i64 (classV a5 a7 i)) []) := by
  have hr' := right_iff.1 hr
  refine gives_x hXC (fn := Try.f62) rfl rfl rfl rfl fun ρ w => ?_
  have e := wi64 (n := a5 + a7) (by omega) (by omega)
  by_cases h1 : i < 1
  · refine sx hXC [.T] 200 rfl (by simp [conjP, hr]; omega) ?_
    exact ss_end hXC [] rfl rfl trivial rfl rfl rfl rfl ⟨rfl, by rw [classV, if_neg (by omega)]⟩ trivial (by (repeat' (first | exact rfl | exact trivial | exact sim_refl _ | refine And.intro ?_ ?_))) trivial
  · by_cases h2 : a5 + a7 < i
    · refine sx hXC [.F, .T] 200 rfl (by simp [conjP, hr, e]; omega) ?_
      exact ss_end hXC [] rfl rfl trivial rfl rfl rfl rfl ⟨rfl, by rw [classV, if_neg (by omega)]⟩ trivial (by (repeat' (first | exact rfl | exact trivial | exact sim_refl _ | refine And.intro ?_ ?_))) trivial
    · by_cases h3 : i ≤ a5
      · refine sx hXC [.F, .F, .T] 200 rfl (by simp [conjP, hr, e]; omega) ?_
        exact ss_end hXC [] rfl rfl trivial rfl rfl rfl rfl ⟨rfl, by rw [classV, if_pos (by omega), if_pos h3]⟩ trivial (by (repeat' (first | exact rfl | exact trivial | exact sim_refl _ | refine And.intro ?_ ?_))) trivial
      · refine sx hXC [.F, .F, .F] 200 rfl (by simp [conjP, hr, e]; omega) ?_
        exact ss_end hXC [] rfl rfl trivial rfl rfl rfl rfl ⟨rfl, by rw [classV, if_pos (by omega), if_neg h3]⟩ trivial (by (repeat' (first | exact rfl | exact trivial | exact sim_refl _ | refine And.intro ?_ ?_))) trivial
end
end Go.Proofs.Ytfdkaakllceebaa
