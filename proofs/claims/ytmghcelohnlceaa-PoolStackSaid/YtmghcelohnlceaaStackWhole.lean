/- PoolStack: the whole, with and without a row. -/
import Derived.Test.YtmghcelohnlceaaStackWalk
namespace Go.Proofs.Ytmghcelohnlceaa
open Go Go.Hx
theorem abs_there : there [HE.absent] = there [] := by
  funext x
  cases x <;> rfl
theorem abs_gives {P : Program} {f : Nat} {args : List SV} {V : SV} (h : Gives P f args [.absent] (Is V [.absent])) : Gives P f args [] (Is V []) := by
  intro ρ w hS hok
  have hno : ∀ (x : Nat) (ox : SO), ¬ ([HE.absent] : List HE)[x]? = some (.obj ox) := fun x ox hx => by cases x <;> simp at hx
  have hS' : HSat w (Own ρ [.absent]) ρ [.absent] w := ⟨fun x ox hx => absurd hx (hno x ox), fun x hx => by rw [abs_there] at hx; simp [there] at hx, fun x y ox oy hx _ _ => absurd hx (hno x ox), fun x ox hx _ => absurd hx (hno x ox), Fr.refl _ _⟩
  refine Calls.mono (h ρ w hS' (by rw [abs_there]; exact hok)) fun e w' he => ?_
  cases e with
  | returned VV =>
    obtain ⟨ρ', H', v, ⟨rfl, rfl⟩, h4, h5, h6, _⟩ := he
    refine ⟨ρ', [], _, ⟨rfl, rfl⟩, h4, by rw [← abs_there]; exact h5, ⟨fun x ox hx => by simp at hx, fun x hx => by simp [there] at hx, fun x y ox oy hx => by simp at hx, fun x ox hx => by simp at hx, ⟨h6.fr.size, fun b hb hn => h6.fr.same b hb fun ⟨x, ox, hx, _⟩ => hno x ox hx, h6.fr.io⟩⟩, fun x hx => by simp [there] at hx⟩
  | panicked c => exact he
  | outgrown => exact he
end Go.Proofs.Ytmghcelohnlceaa
namespace Go.Proofs.Ytmghcelohnlceaa.poolStack
open Go Go.Hx
theorem two {l : List SV} (hl : okK [some .i64, some .i64] l) : ∃ a b, .agg l = L2 a b := by
  rcases l with _ | ⟨a, _ | ⟨b, _ | ⟨c, r⟩⟩⟩ <;> simp only [okK, and_false] at hl
  obtain ⟨⟨n1, rfl, h1⟩, ⟨n2, rfl, h2⟩, _⟩ := hl
  exact ⟨n1, n2, rfl⟩
theorem walk_nil (a : Option Addr) (l : List SV) (hl : okK [some .i64, some .i64] l) (q : Int) (_ : (Lit.int .i64 q).wf = true) : Gives Try.prog 5 [.agg l, .int .i64 q, .raw (.slice a 0 0)] [] (Is .tt []) := by
  obtain ⟨l0, l1, e⟩ := two hl
  rw [e]
  exact abs_gives (kn.whole l0 l1 q [] 0 a)
theorem walk (l : List SV) (hl : okK [some .i64, some .i64] l) (q : Int) (_ : (Lit.int .i64 q).wf = true) (z : List Int) (len cap : Nat) (hz : z.length = len) (hm : len ≤ maxLen) :
    ∃ L, Gives Try.prog 5 [.agg l, .int .i64 q, .slice 0 0 len cap] [.obj (.winI .i64 z)] (Is .tt L) := by
  obtain ⟨l0, l1, e⟩ := two hl
  subst hz
  rw [e]
  exact ⟨_, kw.whole l0 l1 q z cap none (by unfold maxLen at hm; omega)⟩
end Go.Proofs.Ytmghcelohnlceaa.poolStack
