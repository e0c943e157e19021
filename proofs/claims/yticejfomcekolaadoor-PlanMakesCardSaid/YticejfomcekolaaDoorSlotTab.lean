/- Slots: tables, configs. -/
import Derived.Test.YticejfomcekolaaDoorSlotWords
namespace Go.Proofs.YticejfomcekolaaDoor
open Go Go.Hx
set_option maxRecDepth 8000


theorem set_self {H : List HE} {h : Nat} {o : SO} (hg : getH H h = some o) : H.set h (.obj o) = H := by
  have := getH_some.1 hg
  apply List.ext_getElem?
  intro i
  rw [List.getElem?_set]
  split
  · rename_i e; subst e
    have hl : h < H.length := by
      rcases Nat.lt_or_ge h H.length with h1 | h1
      · exact h1
      · rw [List.getElem?_eq_none h1] at this; simp at this
    rw [List.getElem?_eq_getElem hl] at this ⊢
    rw [if_pos hl, Option.some.inj this]
  · rfl
theorem slots_right (n : Int) : rightB 1 4 (cAnd 7 n) 4 4 2 6 2 2 = true := by
  have := cAnd7 n
  exact right_iff.2 (by omega)
def ctSl : Nat → Option Hx.Spec
  | 51 => some (pureS rightS)
  | 35 => some (pureS rightS)
  | 18 => some (arStoreS)
  | 20 => some (arSwapS)
  | 12 => some (arWordsS)
  | 14 => some (arStepsS)
  | 15 => some (arLastS)
  | 32 => some (makeS)
  | _ => none
theorem ctSl_ok : ∀ f s args H ob V L, ctSl f = some s → s args H = some (ob, V, L) → AllP ob → Gives Tryd.prog f args H (Is V L) := by
  intro f s args H ob V L h hs ho
  unfold ctSl at h
  split at h
  · simp at h; subst h; exact pureS_ok ⟨_, hTE⟩ (rightS_ok right51) hs ho
  · simp at h; subst h; exact pureS_ok ⟨_, hTE⟩ (rightS_ok right35) hs ho
  · simp at h; subst h; exact arStoreS_ok hs ho
  · simp at h; subst h; exact arSwapS_ok hs ho
  · simp at h; subst h; exact arWordsS_ok hs ho
  · simp at h; subst h; exact arStepsS_ok hs ho
  · simp at h; subst h; exact arLastS_ok hs ho
  · simp at h; subst h; exact makeS_ok hs ho
  · simp at h
noncomputable def XSl : Tabs := tabs tr ft xt (fun _ => none) ctSl 0
theorem hXSl : TOk Tryd.prog XSl := ⟨hTE, hFT, ctSl_ok, hXT, fun t ks h => by simp [XSl, tabs] at h, mixed⟩
end Go.Proofs.YticejfomcekolaaDoor
