/- Slots: tables, configs. -/
import Derived.Test.YtfdkaakllceebaaSlotWords
namespace Go.Proofs.Ytfdkaakllceebaa
open Go Go.Hx
set_option maxRecDepth 8000


theorem set_self {H : List HE} {h : Nat} {o : SO} (hg : getH H h = some o) : H.set h (.obj o) = H := by
  have := getH_some.1 hg
  apply List.ext_getElem?
  intro i
  rw [List.getElem?_set]
  split
  · rename_i e; subst e
    have hl : h < H.length := by
      rcases Nat.lt_or_ge h H.length with h1 | h1
      · exact h1
      · rw [List.getElem?_eq_none h1] at this; simp at this
    rw [List.getElem?_eq_getElem hl] at this ⊢
    rw [if_pos hl, Option.some.inj this]
  · rfl
theorem config_fn (n : Int) : Gives Try.prog 9 [.int .i64 n] [] (Is (C9 1 4 (cAnd 7 n) 4 4 2 6 2 2) []) := by
  refine gives_x hXS1 (fn := Try.f9) rfl rfl rfl rfl fun ρ w => ?_
  refine sx hXS1 [] 400 rfl (by (simp [-List.getD_eq_getElem?_getD, -List.length_eq_zero_iff, conjP, getH, HE.so] <;> (first | omega | ((repeat' (refine And.intro ?_ ?_)) <;> (first | omega | exact decide_eq_false (by omega) | exact decide_eq_true (by omega)))))) ?_
  (exact ss_end hXS1 [] rfl rfl trivial rfl rfl rfl rfl (by (repeat' (first | exact rfl | exact trivial | exact sim_refl _ | refine And.intro ?_ ?_))) (by (repeat' (first | exact rfl | exact trivial | exact sim_refl _ | refine And.intro ?_ ?_))) (by (repeat' (first | exact rfl | exact trivial | exact sim_refl _ | refine And.intro ?_ ?_))) (by (repeat' (first | exact rfl | exact trivial | exact sim_refl _ | refine And.intro ?_ ?_))))
theorem awake_fn : Gives Try.prog 10 [] [] (Is .tt []) := by
  refine gives_x hXS1 (fn := Try.f10) rfl rfl rfl rfl fun ρ w => ?_
  refine sx hXS1 (List.replicate 100 .C) 2000 rfl (by simp [conjP]) ?_
  exact ss_end hXS1 [] rfl rfl trivial rfl rfl rfl rfl (by (repeat' (first | exact rfl | exact trivial | exact sim_refl _ | refine And.intro ?_ ?_))) trivial (by (repeat' (first | exact rfl | exact trivial | exact sim_refl _ | refine And.intro ?_ ?_))) trivial
def awS : List SV → Option (List Prop × SV)
  | [] => some ([], .tt)
  | _ => none
theorem awS_ok : PureOk 10 awS := by
  intro args ob V hs ho
  unfold awS at hs
  split at hs
  · simp only [Option.some.injEq, Prod.mk.injEq] at hs
    obtain ⟨rfl, rfl⟩ := hs
    exact ⟨rfl, rfl, awake_fn⟩
  · simp at hs
end Go.Proofs.Ytfdkaakllceebaa
