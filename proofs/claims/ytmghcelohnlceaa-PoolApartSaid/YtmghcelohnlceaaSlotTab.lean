/- Slots: tables, configs. -/
import Derived.Test.YtmghcelohnlceaaSlotWords
namespace Go.Proofs.Ytmghcelohnlceaa
open Go Go.Hx
set_option maxRecDepth 8000


theorem set_self {H : List HE} {h : Nat} {o : SO} (hg : getH H h = some o) : H.set h (.obj o) = H := by
  have := getH_some.1 hg
  apply List.ext_getElem?
  intro i
  rw [List.getElem?_set]
  split
  · rename_i e; subst e
    have hl : h < H.length := by
      rcases Nat.lt_or_ge h H.length with h1 | h1
      · exact h1
      · rw [List.getElem?_eq_none h1] at this; simp at this
    rw [List.getElem?_eq_getElem hl] at this ⊢
    rw [if_pos hl, Option.some.inj this]
  · rfl
theorem hasS_ok {args : List SV} {H : List HE} {ob : List Prop} {V : SV} {L : List HE} (hs : hasS args H = some (ob, V, L)) (ho : AllP ob) : Gives Try.prog 12 args H (Is V L) := by
  unfold hasS at hs
  split at hs
  · simp only [Option.some.injEq, Prod.mk.injEq] at hs
    obtain ⟨rfl, rfl, rfl⟩ := hs
    exact gives_pure ⟨_, hTE⟩ (has_nil _) rfl rfl _
  · rename_i _ h l n
    split at hs
    · rename_i _ X hg
      simp only [Option.some.injEq, Prod.mk.injEq] at hs
      obtain ⟨rfl, rfl, rfl⟩ := hs
      have o1 := ho _ (List.mem_cons_self ..)
      have o2 := ho _ (List.mem_cons_of_mem _ (List.mem_cons_self ..))
      subst o1
      have := frame1 (N := []) (H := H) (h0 := h) ⟨_, hTE⟩ (has_fn X n o2) rfl rfl rfl hg rfl
      simp only [List.map_nil, List.append_nil] at this
      have e : SO.ren (nm [h] H) (SO.buf .i64 X 1 3) = SO.buf .i64 X 1 3 := rfl
      rw [e, set_self hg] at this
      exact this
    · simp at hs
  · simp at hs
theorem slots_right (n : Int) : rightB 1 4 (cAnd 7 n) 4 4 2 6 2 2 = true := by
  have := cAnd7 n
  exact right_iff.2 (by omega)
def ctSl : Nat → Option Hx.Spec
  | 63 => some (pureS rightS)
  | 48 => some (pureS rightS)
  | 12 => some (hasS)
  | 38 => some (arStoreS)
  | 91 => some (arSwapS)
  | 17 => some (arWordsS)
  | 23 => some (arStepsS)
  | 30 => some (arLastS)
  | 10 => some (makeS)
  | _ => none
theorem ctSl_ok : ∀ f s args H ob V L, ctSl f = some s → s args H = some (ob, V, L) → AllP ob → Gives Try.prog f args H (Is V L) := by
  intro f s args H ob V L h hs ho
  unfold ctSl at h
  split at h
  · simp at h; subst h; exact pureS_ok ⟨_, hTE⟩ (rightS_ok right63) hs ho
  · simp at h; subst h; exact pureS_ok ⟨_, hTE⟩ (rightS_ok right48) hs ho
  · simp at h; subst h; exact hasS_ok hs ho
  · simp at h; subst h; exact arStoreS_ok hs ho
  · simp at h; subst h; exact arSwapS_ok hs ho
  · simp at h; subst h; exact arWordsS_ok hs ho
  · simp at h; subst h; exact arStepsS_ok hs ho
  · simp at h; subst h; exact arLastS_ok hs ho
  · simp at h; subst h; exact makeS_ok hs ho
  · simp at h
noncomputable def XSl : Tabs := tabs tr ft xt (fun _ => none) ctSl 0
theorem hXSl : TOk Try.prog (XSl) := ⟨hTE, hFT, ctSl_ok, hXT, fun t ks h => by simp [XSl, tabs] at h, mixed⟩
end Go.Proofs.Ytmghcelohnlceaa
