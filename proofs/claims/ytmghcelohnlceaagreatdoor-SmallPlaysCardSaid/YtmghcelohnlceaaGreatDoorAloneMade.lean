/- The world as it is made. -/
import Derived.Test.YtmghcelohnlceaaGreatDoorAwake
import Derived.Test.YtmghcelohnlceaaGreatDoorMakeWords
import Derived.Test.YtmghcelohnlceaaGreatDoorWorldLaw
namespace Go.Proofs.YtmghcelohnlceaaGreatDoor
open Go Go.Hx
set_option maxRecDepth 8000
def ctMa : Nat → Option Hx.Spec
  | 9 => some (pureS awSS)
  | 10 => some (begunS)
  | _ => none
theorem ctMa_ok : ∀ f s args H ob V L, ctMa f = some s → s args H = some (ob, V, L) → AllP ob → Gives Tryz.prog f args H (Is V L) := by
  intro f s args H ob V L h hs ho
  unfold ctMa at h
  split at h
  · simp at h; subst h; exact pureS_ok ⟨_, hTE⟩ (awSS_ok) hs ho
  · simp at h; subst h; exact begunS_ok hs ho
  · simp at h
noncomputable def XMa : Tabs := tabs tr ft xt (fun _ => none) ctMa 20
theorem hXMa : TOk Tryz.prog (XMa) := ⟨hTE, hFT, ctMa_ok, hXT, fun t ks h => by simp [XMa, tabs] at h, mixed⟩
/-- The world as it is made. -/
def wd0 (R : Int) (v : Nat → Value) : Wd := ⟨bgW R, bgS R, 2, 7, bornW 0, true, bgS R, 2, 7, bornW 0, true, false, 0, none, none, none, none, v 0, v 1, v 2, v 3, v 4, v 5, v 6, v 7, 0, 0, 0, 0⟩
theorem wd0_ok {R : Int} (r1 : 1 ≤ R) (r2 : R ≤ 8) (v : Nat → Value) : BInv R 0 (wd0 R v) := by
  have hr := csR r1 r2
  have hst := mkA_st hr
  refine ⟨r1, r2, by decide, bgW_len R, ?_, ?_, ?_, ?_, ?_, by show (0 : Int) ≤ 0; decide, by show (0 : Int) ≤ 0; decide, trivial, trivial, trivial, trivial⟩
  · show ∀ j, 0 ≤ (bgW R).getD j 0 ∧ (bgW R).getD j 0 < 18446744073709551616
    unfold bgW
    exact rg_set (mkA_bd hr) (born_r (by decide)).1 (born_r (by decide)).2
  · show 0 ≤ bgS R
    unfold bgS; omega
  · show bgS R ≤ 100 + 2 * ((0 : Nat) : Int)
    unfold bgS; omega
  · show 0 ≤ bgS R
    unfold bgS; omega
  · show bgS R ≤ 100 + 2 * ((0 : Nat) : Int)
    unfold bgS; omega
def vv (a b c d e f g h : Value) : Nat → Value
  | 0 => a
  | 1 => b
  | 2 => c
  | 3 => d
  | 4 => e
  | 5 => f
  | 6 => g
  | _ => h
theorem abs_gives1 {P : Program} {f : Nat} {args : List SV} {V : SV} {b : Nat} {v : Value} (hA : ∀ ρ ρ' : Nat → Nat × Nat, SV.trs ρ args = SV.trs ρ' args) (hk : ∀ A B : Nat → Bool, SV.okhs A args = SV.okhs B args) (hV : ∀ ρ ρ' : Nat → Nat × Nat, V.tr ρ = V.tr ρ') (hVk : ∀ A B : Nat → Bool, V.okh A = V.okh B)
    (h : Gives P f args [.absent, .obj (.pin b v)] (Is V [.absent, .obj (.pin b v)])) : Gives P f args [.obj (.pin b v)] (Is V [.obj (.pin b v)]) := by
  intro ρ w hS hok
  have g0 : ∀ (x : Nat) (ox : SO), ([.absent, .obj (.pin b v)] : List HE)[x]? = some (.obj ox) → x = 1 ∧ ox = .pin b v := fun x ox hx => by
    rcases x with _ | _ | x
    · simp at hx
    · simp at hx; exact ⟨rfl, hx.symm⟩
    · simp at hx
  have g1 : ∀ (x : Nat) (ox : SO), ([.obj (.pin b v)] : List HE)[x]? = some (.obj ox) → x = 0 ∧ ox = .pin b v := fun x ox hx => by
    rcases x with _ | x
    · simp at hx; exact ⟨rfl, hx.symm⟩
    · simp at hx
  have t0 : ∀ x, there ([.absent, .obj (.pin b v)] : List HE) x = true → x = 1 := fun x hx => by
    rcases x with _ | _ | x
    · simp [there, HE.there] at hx
    · rfl
    · simp [there] at hx
  have t1 : ∀ x, there ([.obj (.pin b v)] : List HE) x = true → x = 0 := fun x hx => by
    rcases x with _ | x
    · rfl
    · simp [there] at hx
  have fr0 : ∀ (ρ' : Nat → Nat × Nat) b', ¬ Own ρ' [.absent, .obj (.pin b v)] b' := fun ρ' b' ⟨x, o, hx, ho, _⟩ => by
    obtain ⟨_, rfl⟩ := g0 x o hx; simp [SO.owned] at ho
  have fr1 : ∀ (ρ' : Nat → Nat × Nat) b', ¬ Own ρ' [.obj (.pin b v)] b' := fun ρ' b' ⟨x, o, hx, ho, _⟩ => by
    obtain ⟨_, rfl⟩ := g1 x o hx; simp [SO.owned] at ho
  have hS' : HSat w (Own (fun x => ρ (x - 1)) [.absent, .obj (.pin b v)]) (fun x => ρ (x - 1)) [.absent, .obj (.pin b v)] w := by
    refine ⟨fun x o hx => ?_, fun x hx => ?_, fun x y ox oy hx hy _ => ?_, fun x o hx ho => ?_, Fr.refl _ _⟩
    · obtain ⟨rfl, rfl⟩ := g0 x o hx
      exact ⟨(hS.objs 0 _ rfl).1, rfl⟩
    · obtain rfl := t0 x hx
      exact hS.size 0 rfl
    · rw [(g0 x ox hx).1, (g0 y oy hy).1]
    · obtain ⟨_, rfl⟩ := g0 x o hx; simp [SO.owned] at ho
  have hc := h (fun x => ρ (x - 1)) w hS' (by rw [hk _ (there [.obj (.pin b v)])]; exact hok)
  rw [hA (fun x => ρ (x - 1)) ρ] at hc
  refine Calls.mono hc fun e w' he => ?_
  cases e with
  | returned VV =>
    obtain ⟨ρ', H', v', ⟨rfl, rfl⟩, h4, h5, h6, h7⟩ := he
    refine ⟨fun x => ρ' (x + 1), _, _, ⟨rfl, rfl⟩, h4.trans (hV _ _), by rw [hVk _ (there [.absent, .obj (.pin b v)])]; exact h5, ⟨fun x o hx => ?_, fun x hx => ?_, fun x y ox oy hx hy _ => ?_, fun x o hx ho => ?_, ⟨h6.fr.size, fun b' hb hn => h6.fr.same b' hb (fr0 _ _), h6.fr.io⟩⟩, fun x hx => ?_⟩
    · obtain ⟨rfl, rfl⟩ := g1 x o hx
      exact ⟨(h6.objs 1 _ rfl).1, rfl⟩
    · obtain rfl := t1 x hx
      exact h6.size 1 rfl
    · rw [(g1 x ox hx).1, (g1 y oy hy).1]
    · obtain ⟨_, rfl⟩ := g1 x o hx; simp [SO.owned] at ho
    · obtain rfl := t1 x hx
      exact ⟨(h7 1 rfl).1, rfl⟩
  | panicked c => exact he
  | outgrown => exact he
end Go.Proofs.YtmghcelohnlceaaGreatDoor
