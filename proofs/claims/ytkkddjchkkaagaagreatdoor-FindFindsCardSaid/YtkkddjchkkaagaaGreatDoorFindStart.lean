/- FindNil: of no run nothing comes; of a key that may not be there is none. -/
import Derived.Test.YtkkddjchkkaagaaGreatDoorAsVar
import Derived.Test.YtkkddjchkkaagaaGreatDoorRSize
namespace Go.Proofs.YtkkddjchkkaagaaGreatDoor
open Go Go.Hx
set_option maxRecDepth 8000
def mix1 (x c : Int) (s : Int) : Int := IntKind.u64.wrap (ibits .xor .u64 x (x.fdiv (2 ^ (min s.toNat IntKind.u64.bits))) * c)
def mixV (x : Int) : Int :=
  let y := mix1 (mix1 x 13787848793156543929 30) 10723151780598845931 27
  ibits .xor .u64 y (y.fdiv (2 ^ (min (31 : Int).toNat IntKind.u64.bits)))
theorem mixV_nn (x : Int) : 0 ≤ mixV x := by
  show 0 ≤ IntKind.u64.wrap _
  simp only [IntKind.wrap, IntKind.bits, IntKind.signed]
  simp
  omega
theorem mix_fn (x : Int) : Gives Tryz.prog 139 [.int .u64 x] [] (Is (.int .u64 (mixV x)) []) := by
  refine gives_x hXR (fn := Tryz.f139) rfl rfl rfl rfl fun ρ w => ?_
  refine sx hXR [] 100 rfl (by simp [conjP]) ?_
  exact ss_end hXR [] rfl rfl trivial rfl rfl rfl rfl (by (repeat' (first | exact rfl | exact trivial | exact sim_refl _ | refine And.intro ?_ ?_))) trivial (by (repeat' (first | exact rfl | exact trivial | exact sim_refl _ | refine And.intro ?_ ?_))) trivial
def mixS : List SV → Option (List Prop × SV)
  | [.int .u64 x] => some ([], .int .u64 (mixV x))
  | _ => none
theorem mixS_ok : PureOk 139 mixS := by
  intro args ob V hs ho
  unfold mixS at hs
  split at hs
  · simp only [Option.some.injEq, Prod.mk.injEq] at hs
    obtain ⟨rfl, rfl⟩ := hs
    exact ⟨rfl, rfl, mix_fn _⟩
  · simp at hs
def startV (a0 a1 a2 a3 a4 a5 a6 a7 a8 k : Int) : Int :=
  if rightB a0 a1 a2 a3 a4 a5 a6 a7 a8 = true ∧ 1 ≤ k ∧ k ≤ 2147483647 then IntKind.i64.wrap ((mixV (IntKind.u64.wrap k)).tmod (IntKind.u64.wrap a0)) else -1
theorem start_nn {a0 a1 a2 a3 a4 a5 a6 a7 a8 k : Int} (hr : rightB a0 a1 a2 a3 a4 a5 a6 a7 a8 = true) (h1 : 1 ≤ k) (h2 : k ≤ 2147483647) : 0 ≤ startV a0 a1 a2 a3 a4 a5 a6 a7 a8 k ∧ startV a0 a1 a2 a3 a4 a5 a6 a7 a8 k < a0 := by
  have hrA := right_iff.1 hr
  unfold startV
  rw [if_pos ⟨hr, h1, h2⟩, wu64 (n := a0) (by omega) (by omega)]
  have h3 := Int.tmod_lt_of_pos (mixV (IntKind.u64.wrap k)) (show 0 < a0 by omega)
  have h4 : 0 ≤ (mixV (IntKind.u64.wrap k)).tmod a0 := Int.tmod_nonneg _ (mixV_nn _)
  rw [wi64 (by omega) (by omega)]
  omega
def ctFs : Nat → Option Hx.Spec
  | 143 => some (pureS rightS)
  | 139 => some (pureS mixS)
  | _ => none
theorem ctFs_ok : ∀ f s args H ob V L, ctFs f = some s → s args H = some (ob, V, L) → AllP ob → Gives Tryz.prog f args H (Is V L) := by
  intro f s args H ob V L h hs ho
  unfold ctFs at h
  split at h
  · simp at h; subst h; exact pureS_ok ⟨_, hTE⟩ (rightS_ok right143) hs ho
  · simp at h; subst h; exact pureS_ok ⟨_, hTE⟩ (mixS_ok) hs ho
  · simp at h
noncomputable def XFs : Tabs := tabs tr ft xt (fun _ => none) ctFs 20
theorem hXFs : TOk Tryz.prog (XFs) := ⟨hTE, hFT, ctFs_ok, hXT, fun t ks h => by simp [XFs, tabs] at h, mixed⟩
theorem start_fn (a0 a1 a2 a3 a4 a5 a6 a7 a8 k : Int) : Gives Tryz.prog 84 [C9 a0 a1 a2 a3 a4 a5 a6 a7 a8, .int .i64 k] [] (Is (.int .i64 (startV a0 a1 a2 a3 a4 a5 a6 a7 a8 k)) []) := by
  refine gives_x hXFs (fn := Tryz.f84) rfl rfl rfl rfl fun ρ w => ?_
  by_cases hr : rightB a0 a1 a2 a3 a4 a5 a6 a7 a8 = true
  · have hrA := right_iff.1 hr
    have hw : IntKind.u64.wrap a0 = a0 := wu64 (by omega) (by omega)
    have h0 : ¬ a0 = 0 := by omega
    by_cases hm : 1 ≤ k ∧ k ≤ 2147483647
    · obtain ⟨m1, m2⟩ := hm
      refine sx hXFs [] 400 rfl (by (simp [-List.getD_eq_getElem?_getD, -List.length_eq_zero_iff, conjP] <;> (first | omega | ((repeat' (refine And.intro ?_ ?_)) <;> (first | omega | exact decide_eq_false (by omega) | exact decide_eq_true (by omega)))))) ?_
      refine sx hXFs [.F] 400 rfl (by (simp [-List.getD_eq_getElem?_getD, -List.length_eq_zero_iff, conjP, addOP, hr] <;> (first | omega | ((repeat' (refine And.intro ?_ ?_)) <;> (first | omega | exact decide_eq_false (by omega) | exact decide_eq_true (by omega)))))) ?_
      refine sx hXFs [.T] 400 rfl (by (simp [-List.getD_eq_getElem?_getD, -List.length_eq_zero_iff, conjP, addOP, m1] <;> (first | omega | ((repeat' (refine And.intro ?_ ?_)) <;> (first | omega | exact decide_eq_false (by omega) | exact decide_eq_true (by omega)))))) ?_
      refine sx hXFs [.F] 400 rfl (by (simp [-List.getD_eq_getElem?_getD, -List.length_eq_zero_iff, conjP, getH, HE.so, m2, hw, h0] <;> (first | omega | ((repeat' (refine And.intro ?_ ?_)) <;> (first | omega | exact decide_eq_false (by omega) | exact decide_eq_true (by omega)))))) ?_
      (refine ss_end hXFs [] rfl rfl trivial rfl rfl rfl rfl ?hv (by (repeat' (first | exact rfl | exact trivial | exact sim_refl _ | refine And.intro ?_ ?_))) (by (repeat' (first | exact rfl | exact trivial | exact sim_refl _ | refine And.intro ?_ ?_))) (by (repeat' (first | exact rfl | exact trivial | exact sim_refl _ | refine And.intro ?_ ?_))); (case hv => exact ⟨rfl, by rw [startV, if_pos ⟨hr, m1, m2⟩]⟩))
    · have hm' : 1 ≤ k → ¬ k ≤ 2147483647 := fun a b => hm ⟨a, b⟩
      refine sx hXFs [] 400 rfl (by (simp [-List.getD_eq_getElem?_getD, -List.length_eq_zero_iff, conjP] <;> (first | omega | ((repeat' (refine And.intro ?_ ?_)) <;> (first | omega | exact decide_eq_false (by omega) | exact decide_eq_true (by omega)))))) ?_
      refine sx hXFs [.F] 400 rfl (by (simp [-List.getD_eq_getElem?_getD, -List.length_eq_zero_iff, conjP, addOP, hr] <;> (first | omega | ((repeat' (refine And.intro ?_ ?_)) <;> (first | omega | exact decide_eq_false (by omega) | exact decide_eq_true (by omega)))))) ?_
      refine ss_pb hXFs [] [] 400 rfl (fun hb0 => ?_) (fun hb0 => ?_)
      · try simp [-List.getD_eq_getElem?_getD, -List.length_eq_zero_iff] at hb0
        refine sx hXFs [.T] 400 rfl (by (simp [-List.getD_eq_getElem?_getD, -List.length_eq_zero_iff, conjP, addOP, hb0] <;> (first | omega | ((repeat' (refine And.intro ?_ ?_)) <;> (first | omega | exact decide_eq_false (by omega) | exact decide_eq_true (by omega)))))) ?_
        refine sx hXFs [.T] 400 rfl (by (simp [-List.getD_eq_getElem?_getD, -List.length_eq_zero_iff, conjP, addOP, hm', hb0] <;> (first | omega | ((repeat' (refine And.intro ?_ ?_)) <;> (first | omega | exact decide_eq_false (by omega) | exact decide_eq_true (by omega)))))) ?_
        (refine ss_end hXFs [] rfl rfl trivial rfl rfl rfl rfl ?hv (by (repeat' (first | exact rfl | exact trivial | exact sim_refl _ | refine And.intro ?_ ?_))) (by (repeat' (first | exact rfl | exact trivial | exact sim_refl _ | refine And.intro ?_ ?_))) (by (repeat' (first | exact rfl | exact trivial | exact sim_refl _ | refine And.intro ?_ ?_))); (case hv => exact ⟨rfl, by rw [startV, if_neg (fun q => hm q.2)]⟩))
      · try simp [-List.getD_eq_getElem?_getD, -List.length_eq_zero_iff] at hb0
        refine sx hXFs [.F] 400 rfl (by (simp [-List.getD_eq_getElem?_getD, -List.length_eq_zero_iff, conjP, addOP, hb0] <;> (first | omega | ((repeat' (refine And.intro ?_ ?_)) <;> (first | omega | exact decide_eq_false (by omega) | exact decide_eq_true (by omega)))))) ?_
        (refine ss_end hXFs [] rfl rfl trivial rfl rfl rfl rfl ?hv (by (repeat' (first | exact rfl | exact trivial | exact sim_refl _ | refine And.intro ?_ ?_))) (by (repeat' (first | exact rfl | exact trivial | exact sim_refl _ | refine And.intro ?_ ?_))) (by (repeat' (first | exact rfl | exact trivial | exact sim_refl _ | refine And.intro ?_ ?_))); (case hv => exact ⟨rfl, by rw [startV, if_neg (fun q => hm q.2)]⟩))
  · have hr' : rightB a0 a1 a2 a3 a4 a5 a6 a7 a8 = false := by simpa using hr
    refine sx hXFs [] 400 rfl (by (simp [-List.getD_eq_getElem?_getD, -List.length_eq_zero_iff, conjP] <;> (first | omega | ((repeat' (refine And.intro ?_ ?_)) <;> (first | omega | exact decide_eq_false (by omega) | exact decide_eq_true (by omega)))))) ?_
    refine sx hXFs [.T] 400 rfl (by (simp [-List.getD_eq_getElem?_getD, -List.length_eq_zero_iff, conjP, addOP, hr'] <;> (first | omega | ((repeat' (refine And.intro ?_ ?_)) <;> (first | omega | exact decide_eq_false (by omega) | exact decide_eq_true (by omega)))))) ?_
    refine sx hXFs [.F] 400 rfl (by (simp [-List.getD_eq_getElem?_getD, -List.length_eq_zero_iff, conjP, addOP] <;> (first | omega | ((repeat' (refine And.intro ?_ ?_)) <;> (first | omega | exact decide_eq_false (by omega) | exact decide_eq_true (by omega)))))) ?_
    (refine ss_end hXFs [] rfl rfl trivial rfl rfl rfl rfl ?hv (by (repeat' (first | exact rfl | exact trivial | exact sim_refl _ | refine And.intro ?_ ?_))) (by (repeat' (first | exact rfl | exact trivial | exact sim_refl _ | refine And.intro ?_ ?_))) (by (repeat' (first | exact rfl | exact trivial | exact sim_refl _ | refine And.intro ?_ ?_))); (case hv => exact ⟨rfl, by rw [startV, if_neg (fun q => hr q.1)]⟩))
def startS : List SV → Option (List Prop × SV)
  | [.agg [.int .i64 a0, .int .i64 a1, .int .i64 a2, .int .i64 a3, .int .i64 a4, .int .i64 a5, .int .i64 a6, .int .i64 a7, .int .i64 a8], .int .i64 k] => some ([], .int .i64 (startV a0 a1 a2 a3 a4 a5 a6 a7 a8 k))
  | _ => none
theorem startS_ok : PureOk 84 startS := by
  intro args ob V hs ho
  unfold startS at hs
  split at hs
  · simp only [Option.some.injEq, Prod.mk.injEq] at hs
    obtain ⟨rfl, rfl⟩ := hs
    exact ⟨rfl, rfl, start_fn _ _ _ _ _ _ _ _ _ _⟩
  · simp at hs
abbrev L2 (l0 l1 : Int) : SV := .agg [.int .i64 l0, .int .i64 l1]
end Go.Proofs.YtkkddjchkkaagaaGreatDoor
namespace Go.Proofs.YtkkddjchkkaagaaGreatDoor.findNil
open Go Go.Hx
end Go.Proofs.YtkkddjchkkaagaaGreatDoor.findNil
