/- PlanPlaces: places are told as the document says. -/
import Derived.Test.YtbmjhlgkddhhnaaPlanD
namespace Go.Proofs.Ytbmjhlgkddhhnaa
open Go Go.Hx
set_option maxRecDepth 8000

section
variable {a0 a1 a2 a3 a4 a5 a6 a7 a8 : Int} (hr : rightB a0 a1 a2 a3 a4 a5 a6 a7 a8 = true)
include hr
set_option maxHeartbeats 4000000 in
theorem places_fn (i j : Int) (hi : -9223372036854775808 ≤ i) (hi' : i < 9223372036854775808) : Gives Try.prog 18 [C9 a0 a1 a2 a3 a4 a5 a6 a7 a8, .int .i64 i, .int .i64 j] [] (Is .tt []) := by
  refine gives_x hXP (fn := Try.f18) rfl rfl rfl rfl fun ρ w => ?_
  by_cases h0 : i = 0
  · refine sx hXP [.T, .T, .T, .T, .T, .T, .T, .T] 1000 rfl (by subst h0; simp [conjP, hr, headV, wi64]) ?_
    exact ss_end hXP [] rfl rfl trivial rfl rfl rfl rfl (by repeat' (first | exact rfl | exact trivial | exact sim_refl _ | refine And.intro ?_ ?_)) trivial (by repeat' (first | exact rfl | exact trivial | exact sim_refl _ | refine And.intro ?_ ?_)) trivial
  · by_cases h1 : i = 1
    · refine sx hXP [.F, .T, .T, .T, .T, .T, .T, .T, .T] 1000 rfl (by subst h1; simp [conjP, hr, headV, wi64]) ?_
      exact ss_end hXP [] rfl rfl trivial rfl rfl rfl rfl (by repeat' (first | exact rfl | exact trivial | exact sim_refl _ | refine And.intro ?_ ?_)) trivial (by repeat' (first | exact rfl | exact trivial | exact sim_refl _ | refine And.intro ?_ ?_)) trivial
    · have e : headV i = -1 := by rw [headV, if_neg (by omega)]
      refine sx hXP [.F, .F, .T, .T, .T, .T, .T, .T, .T] 1000 rfl (by simp [conjP, hr, e, h0, h1, hi, hi']) ?_
      exact ss_end hXP [] rfl rfl trivial rfl rfl rfl rfl (by repeat' (first | exact rfl | exact trivial | exact sim_refl _ | refine And.intro ?_ ?_)) trivial (by repeat' (first | exact rfl | exact trivial | exact sim_refl _ | refine And.intro ?_ ?_)) trivial
end
def placesS : List SV → Option (List Prop × SV)
  | [.agg [.int .i64 a0, .int .i64 a1, .int .i64 a2, .int .i64 a3, .int .i64 a4, .int .i64 a5, .int .i64 a6, .int .i64 a7, .int .i64 a8], .int .i64 i, .int .i64 _] => some ([rightB a0 a1 a2 a3 a4 a5 a6 a7 a8 = true, -9223372036854775808 ≤ i, i < 9223372036854775808], .tt)
  | _ => none
theorem placesS_ok : PureOk 18 placesS := by
  intro args ob V hs ho
  unfold placesS at hs
  split at hs
  · simp at hs; obtain ⟨rfl, rfl⟩ := hs; exact ⟨rfl, rfl, places_fn (ho _ (by simp)) _ _ (ho _ (by simp)) (ho _ (by simp))⟩
  · simp at hs
def ctQ (f : Nat) : Option Hx.Spec := if f == 18 then some (pureS placesS) else ctP f
theorem ctQ_ok : ∀ f s args H ob V L, ctQ f = some s → s args H = some (ob, V, L) → AllP ob → Gives Try.prog f args H (Is V L) := by
  intro f s args H ob V L h hs ho
  unfold ctQ at h
  split at h
  · rename_i hf
    have hf' : f = 18 := by simpa using hf
    simp at h; subst h; subst hf'; exact pureS_ok ⟨_, hTE⟩ placesS_ok hs ho
  · exact ctP_ok f s args H ob V L h hs ho
noncomputable def XQ : Tabs := tabs tr ft xt (fun _ => none) ctQ 20
theorem hXQ : TOk Try.prog XQ := ⟨hTE, hFT, ctQ_ok, hXT, fun t ks h => by simp [XQ, tabs] at h, mixed⟩

set_option maxHeartbeats 4000000 in
theorem planPlaces_fn (l0 l1 l2 l3 l4 l5 l6 l7 l8 q0 q1 : Int) (hq : -9223372036854775808 ≤ q0) (hq' : q0 < 9223372036854775808) :
    Gives Try.prog 5 [L9 l0 l1 l2 l3 l4 l5 l6 l7 l8, .agg [.int .i64 q0, .int .i64 q1]] [] (Is .tt []) := by
  have hr := cfg_right l0 l1 l2 l3 l4 l5 l6 l7 l8
  have hr' := right_iff.1 hr
  have hw := wrapI (ibits .and .i64 q0 31 - 2)
  have ea := awake_eq
  have e0 : rightB 0 0 0 0 0 0 0 0 0 = false := by decide
  have e1 := wi64 (n := cMod 13 l6 + cMod 13 l8) (by omega) (by omega)
  refine gives_x hXQ (fn := Try.f5) rfl rfl rfl rfl fun ρ w => ?_
  refine sx hXQ [.T, .T, .T, .T, .T] 1000 rfl (by simp [conjP, hr, ea, e0, e1, hq, hq', hw, getH]) ?_
  exact ss_end hXQ [] rfl rfl trivial rfl rfl rfl rfl (by repeat' (first | exact rfl | exact trivial | exact sim_refl _ | refine And.intro ?_ ?_)) trivial (by repeat' (first | exact rfl | exact trivial | exact sim_refl _ | refine And.intro ?_ ?_)) trivial
end Go.Proofs.Ytbmjhlgkddhhnaa

namespace Go.Proofs.Ytbmjhlgkddhhnaa.planPlaces
open Go Go.Hx
theorem nine {l : List SV} (hl : okK [some .i64, some .i64, some .i64, some .i64, some .i64, some .i64, some .i64, some .i64, some .i64] l) : ∃ l0 l1 l2 l3 l4 l5 l6 l7 l8, .agg l = L9 l0 l1 l2 l3 l4 l5 l6 l7 l8 := by
  rcases l with _ | ⟨a, _ | ⟨b, _ | ⟨c, _ | ⟨d, _ | ⟨e, _ | ⟨f, _ | ⟨g, _ | ⟨h, _ | ⟨i, _ | ⟨j, r⟩⟩⟩⟩⟩⟩⟩⟩⟩⟩ <;> simp only [okK, and_false, false_and] at hl
  obtain ⟨⟨n0, rfl, _⟩, ⟨n1, rfl, _⟩, ⟨n2, rfl, _⟩, ⟨n3, rfl, _⟩, ⟨n4, rfl, _⟩, ⟨n5, rfl, _⟩, ⟨n6, rfl, _⟩, ⟨n7, rfl, _⟩, ⟨n8, rfl, _⟩, _⟩ := hl
  exact ⟨_, _, _, _, _, _, _, _, _, rfl⟩
theorem walk (l : List SV) (hl : okK [some .i64, some .i64, some .i64, some .i64, some .i64, some .i64, some .i64, some .i64, some .i64] l) (q : List SV) (hq : okK [some .i64, some .i64] q) :
    Gives Try.prog 5 [.agg l, .agg q] [] (Is .tt []) := by
  obtain ⟨l0, l1, l2, l3, l4, l5, l6, l7, l8, e⟩ := nine hl
  rw [e]
  rcases q with _ | ⟨a, _ | ⟨b, _ | ⟨c, r⟩⟩⟩ <;> simp only [okK, and_false, false_and] at hq
  obtain ⟨⟨q0, rfl, w0⟩, ⟨q1, rfl, _⟩, _⟩ := hq
  obtain ⟨h0, h1⟩ := wfI w0
  exact planPlaces_fn _ _ _ _ _ _ _ _ _ q0 q1 h0 h1
end Go.Proofs.Ytbmjhlgkddhhnaa.planPlaces
