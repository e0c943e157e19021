/- Where a block lies. -/
import Derived.Test.YtfdkaakllceebaaPlanB
namespace Go.Proofs.Ytfdkaakllceebaa
open Go Go.Hx
set_option maxRecDepth 8000


noncomputable def XK : Tabs := tabs tr ft xt (fun _ => none) (fun _ => none) 0
theorem hXK : TOk Try.prog XK := ⟨hTE, hFT, fun f s args H ob V L h => by simp [XK, tabs] at h, hXT, fun t ks h => by simp [XK, tabs] at h, mixed⟩

section
variable {a0 a1 a2 a3 a4 a5 a6 a7 a8 : Int} (hr : rightB a0 a1 a2 a3 a4 a5 a6 a7 a8 = true)
include hr
omit hr in
theorem at_one : atV a0 a1 a2 a4 a5 a6 1 = 5 + a2 + a0 + a0 * (1 + 2 * a1) + minV 0 a5 * (1 + a4) + (0 - minV 0 a5) * (1 + a6) := by simp [atV]
omit hr in
/-- The next block lies behind the one ahead. -/
theorem at_next (h5 : 0 ≤ a5) {j : Int} (h : 1 ≤ j) : atV a0 a1 a2 a4 a5 a6 (j + 1) = atV a0 a1 a2 a4 a5 a6 j + 1 + (if j ≤ a5 then a4 else a6) := by
  unfold atV
  by_cases hj : j ≤ a5
  · have e1 : minV (j - 1) a5 = j - 1 := by unfold minV; split <;> omega
    have e2 : minV (j + 1 - 1) a5 = j := by unfold minV; split <;> omega
    rw [if_pos hj, e1, e2]
    have e3 : j * (1 + a4) = (j - 1) * (1 + a4) + (1 + a4) := by rw [Int.sub_mul]; omega
    have e4 : j + 1 - 1 - j = 0 := by omega
    have e5 : j - 1 - (j - 1) = 0 := by omega
    rw [e3, e4, e5]; omega
  · have e1 : minV (j - 1) a5 = a5 := by unfold minV; split <;> omega
    have e2 : minV (j + 1 - 1) a5 = a5 := by unfold minV; split <;> omega
    rw [if_neg hj, e1, e2]
    have e3 : (j + 1 - 1 - a5) * (1 + a6) = (j - 1 - a5) * (1 + a6) + (1 + a6) := by
      rw [show j + 1 - 1 - a5 = (j - 1 - a5) + 1 from by omega, Int.add_mul]; omega
    rw [e3]; omega
theorem at_bound {j : Int} (h : 1 ≤ j) (h' : j ≤ 25) : 0 ≤ atV a0 a1 a2 a4 a5 a6 j ∧ atV a0 a1 a2 a4 a5 a6 j ≤ 100000 := by
  have hr' := right_iff.1 hr
  have q1 := minV_le (j - 1) a5
  have m0 := mulB (x := a0) (y := 1 + 2 * a1) (X := 8) (Y := 65) (by omega) (by omega) (by omega) (by omega)
  have m1 := mulB (x := minV (j - 1) a5) (y := 1 + a4) (X := 12) (Y := 97) (by omega) (by omega) (by omega) (by omega)
  have m2 := mulB (x := j - 1 - minV (j - 1) a5) (y := 1 + a6) (X := 25) (Y := 97) (by omega) (by omega) (by omega) (by omega)
  rw [atV]; omega

def blT (b : Int) : Int × Int → List (Nat × SV)
  | (i, at') => [(1, .int .i64 b), (2, .ptr 0 0), (5, .int .i64 at'), (6, .int .i64 i)]
def blH (a0 a1 a2 a3 a4 a5 a6 a7 a8 : Int) : Int × Int → List HE
  | _ => [.obj (.cells [.int .i64 a0, .int .i64 a1, .int .i64 a2, .int .i64 a3, .int .i64 a4, .int .i64 a5, .int .i64 a6, .int .i64 a7, .int .i64 a8] 28)]

theorem rblock_fn (i : Int) (hi : -9223372036854775808 ≤ i) (hi' : i < 9223372036854775808) : Gives Try.prog 63 [C9 a0 a1 a2 a3 a4 a5 a6 a7 a8, .int .i64 i] [] (Is (.int .i64 (blockV a0 a1 a2 a4 a5 a6 a7 i)) []) := by
  have hr' := right_iff.1 hr
  refine gives_x hXK (fn := Try.f63) rfl rfl rfl rfl fun ρ w => ?_
  have e := wi64 (n := a5 + a7) (by omega) (by omega)
  by_cases h1 : i < 1
  · refine sx hXK [.T] 200 rfl (by simp [conjP, hr]; omega) ?_
    exact ss_end hXK [] rfl rfl trivial rfl rfl rfl rfl ⟨rfl, by rw [blockV, if_neg (by omega)]⟩ trivial (by (repeat' (first | exact rfl | exact trivial | exact sim_refl _ | refine And.intro ?_ ?_))) trivial
  · by_cases h2 : a5 + a7 < i
    · refine sx hXK [.F, .T] 200 rfl (by simp [conjP, hr, e]; omega) ?_
      exact ss_end hXK [] rfl rfl trivial rfl rfl rfl rfl ⟨rfl, by rw [blockV, if_neg (by omega)]⟩ trivial (by (repeat' (first | exact rfl | exact trivial | exact sim_refl _ | refine And.intro ?_ ?_))) trivial
    · have eb : blockV a0 a1 a2 a4 a5 a6 a7 i = atV a0 a1 a2 a4 a5 a6 i := by rw [blockV, if_pos (by omega)]
      rw [eb]
      have m0 := mulB (x := a0) (y := 1 + 2 * a1) (X := 8) (Y := 65) (by omega) (by omega) (by omega) (by omega)
      refine sx hXK [.F, .F] 200 rfl (by simp [conjP, hr, e]; omega) ?_
      refine ss_sub hXK (T' := blT i (1, atV a0 a1 a2 a4 a5 a6 1)) (H' := blH a0 a1 a2 a3 a4 a5 a6 a7 a8 (1, atV a0 a1 a2 a4 a5 a6 1)) [0] rfl rfl rfl rfl ?_ (by (repeat' (first | exact rfl | exact trivial | exact sim_refl _ | refine And.intro ?_ ?_))) (by (repeat' (first | exact rfl | exact trivial | exact sim_refl _ | refine And.intro ?_ ?_))) (by (repeat' (first | exact rfl | exact trivial | exact sim_refl _ | refine And.intro ?_ ?_))) ?_
      · refine ⟨by (repeat' (first | exact rfl | exact trivial | exact sim_refl _ | refine And.intro ?_ ?_)), by (repeat' (first | exact rfl | exact trivial | exact sim_refl _ | refine And.intro ?_ ?_)), ⟨rfl, ?_⟩, by (repeat' (first | exact rfl | exact trivial | exact sim_refl _ | refine And.intro ?_ ?_))⟩
        have e0 : minV 0 a5 = 0 := by unfold minV; split <;> omega
        rw [at_one, e0]
        simp only [wi64 (n := 2 * a1) (by omega) (by omega), wi64 (n := 1 + 2 * a1) (by omega) (by omega), wi64 (n := 5 + a2) (by omega) (by omega), wi64 (n := 5 + a2 + a0) (by omega) (by omega), wi64 (n := a0 * (1 + 2 * a1)) (by omega) (by omega), wi64 (n := 5 + a2 + a0 + a0 * (1 + 2 * a1)) (by omega) (by omega)]
        omega
      refine ss_loop hXK (blT i) (blH a0 a1 a2 a3 a4 a5 a6 a7 a8) (fun x => 1 ≤ x.1 ∧ x.1 ≤ i ∧ x.2 = atV a0 a1 a2 a4 a5 a6 x.1) (fun x => (i - x.1).toNat) _ ⟨by show (1 : Int) ≤ 1; omega, by show (1 : Int) ≤ i; omega, rfl⟩ ?_
      rintro ⟨j, at'⟩ ⟨hj1, hj2, hj3⟩ I back
      simp only at hj1 hj2 hj3 back
      subst hj3
      have hb := at_bound hr hj1 (by omega)
      have hb2 := at_bound hr (j := j + 1) (by omega) (by omega)
      have hn := at_next (a0 := a0) (a1 := a1) (a2 := a2) (a4 := a4) (a6 := a6) (a5 := a5) (by omega) hj1
      refine sx hXK [] 200 rfl trivial ?_
      refine ss_cond hXK rfl (fun h3 => ?_) (fun h3 => ?_)
      · simp at h3
        have ew : IntKind.i64.wrap (j + 1) = j + 1 := wi64 (by omega) (by omega)
        have e1 : IntKind.i64.wrap (atV a0 a1 a2 a4 a5 a6 j + 1) = atV a0 a1 a2 a4 a5 a6 j + 1 := wi64 (by omega) (by omega)
        by_cases h4 : j ≤ a5
        · rw [if_pos h4] at hn
          have e2 : IntKind.i64.wrap (atV a0 a1 a2 a4 a5 a6 j + 1 + a4) = atV a0 a1 a2 a4 a5 a6 (j + 1) := by rw [wi64 (by omega) (by omega), hn]
          refine sx hXK [.F, .F, .T] 400 rfl (by simp [conjP, e]; omega) ?_
          exact back (j + 1, atV a0 a1 a2 a4 a5 a6 (j + 1)) ⟨by simp only; omega, by simp only; omega, rfl⟩ (by simp only; omega) _ _ _ (sub_of [0] rfl rfl rfl rfl ⟨by (repeat' (first | exact rfl | exact trivial | exact sim_refl _ | refine And.intro ?_ ?_)), by (repeat' (first | exact rfl | exact trivial | exact sim_refl _ | refine And.intro ?_ ?_)), ⟨rfl, by rw [e1, e2]⟩, ⟨rfl, ew⟩, trivial⟩ (by (repeat' (first | exact rfl | exact trivial | exact sim_refl _ | refine And.intro ?_ ?_))) (by (repeat' (first | exact rfl | exact trivial | exact sim_refl _ | refine And.intro ?_ ?_))) (by (repeat' (first | exact rfl | exact trivial | exact sim_refl _ | refine And.intro ?_ ?_))))
        · rw [if_neg h4] at hn
          have e2 : IntKind.i64.wrap (atV a0 a1 a2 a4 a5 a6 j + 1 + a6) = atV a0 a1 a2 a4 a5 a6 (j + 1) := by rw [wi64 (by omega) (by omega), hn]
          refine sx hXK [.F, .F, .F] 400 rfl (by simp [conjP, e]; omega) ?_
          exact back (j + 1, atV a0 a1 a2 a4 a5 a6 (j + 1)) ⟨by simp only; omega, by simp only; omega, rfl⟩ (by simp only; omega) _ _ _ (sub_of [0] rfl rfl rfl rfl ⟨by (repeat' (first | exact rfl | exact trivial | exact sim_refl _ | refine And.intro ?_ ?_)), by (repeat' (first | exact rfl | exact trivial | exact sim_refl _ | refine And.intro ?_ ?_)), ⟨rfl, by rw [e1, e2]⟩, ⟨rfl, ew⟩, trivial⟩ (by (repeat' (first | exact rfl | exact trivial | exact sim_refl _ | refine And.intro ?_ ?_))) (by (repeat' (first | exact rfl | exact trivial | exact sim_refl _ | refine And.intro ?_ ?_))) (by (repeat' (first | exact rfl | exact trivial | exact sim_refl _ | refine And.intro ?_ ?_))))
      · have : j = i := by simp at h3; omega
        subst this
        refine sx hXK [] 200 rfl trivial ?_
        exact ss_end hXK [] rfl rfl trivial rfl rfl rfl rfl ⟨rfl, rfl⟩ trivial (by (repeat' (first | exact rfl | exact trivial | exact sim_refl _ | refine And.intro ?_ ?_))) trivial
end
end Go.Proofs.Ytfdkaakllceebaa
