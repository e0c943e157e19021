/- Contracts of what tells places: what a config's numbers must be, and where things lie. -/
import Derived.Test.YtfdkaakllceebaaRight
namespace Go.Proofs.Ytfdkaakllceebaa
open Go Go.Hx
set_option maxRecDepth 8000


abbrev C9 (a0 a1 a2 a3 a4 a5 a6 a7 a8 : Int) : SV := .agg [.int .i64 a0, .int .i64 a1, .int .i64 a2, .int .i64 a3, .int .i64 a4, .int .i64 a5, .int .i64 a6, .int .i64 a7, .int .i64 a8]

theorem right_iff {a0 a1 a2 a3 a4 a5 a6 a7 a8 : Int} : rightB a0 a1 a2 a3 a4 a5 a6 a7 a8 = true ↔ (1 ≤ a0 ∧ a0 ≤ 8 ∧ 4 ≤ a1 ∧ a1 ≤ 32 ∧ 1 ≤ a2 ∧ a2 ≤ 8 ∧ 1 ≤ a3 ∧ a3 ≤ 8 ∧ 1 ≤ a8 ∧ a8 ≤ 8 ∧ 4 ≤ a4 ∧ a4 ≤ 96 ∧ 0 ≤ a5 ∧ a5 ≤ 12 ∧ 4 ≤ a6 ∧ a6 ≤ 96 ∧ 0 ≤ a7 ∧ a7 ≤ 12 ∧ a4 < a6) := by
  unfold rightB; exact decide_eq_true_iff

theorem mulB {x y X Y : Int} (h1 : 0 ≤ x) (h2 : x ≤ X) (h3 : 0 ≤ y) (h4 : y ≤ Y) : 0 ≤ x * y ∧ x * y ≤ X * Y :=
  ⟨Int.mul_nonneg h1 h3, Int.mul_le_mul h2 h4 h3 (Int.le_trans h1 h2)⟩

/-! What places are, of a right config. -/
def slotV (a2 i : Int) : Int := if 0 ≤ i ∧ i < a2 then 5 + i else -1
def classV (a5 a7 b : Int) : Int := if 1 ≤ b ∧ b ≤ a5 + a7 then (if b ≤ a5 then 0 else 1) else -1
def minV (a b : Int) : Int := if b < a then b else a
def atV (a0 a1 a2 a4 a5 a6 b : Int) : Int := 5 + a2 + a0 + a0 * (1 + 2 * a1) + minV (b - 1) a5 * (1 + a4) + (b - 1 - minV (b - 1) a5) * (1 + a6)
def blockV (a0 a1 a2 a4 a5 a6 a7 b : Int) : Int := if 1 ≤ b ∧ b ≤ a5 + a7 then atV a0 a1 a2 a4 a5 a6 b else -1
def sizeV (a0 a1 a2 a4 a5 a6 a7 : Int) : Int := 5 + a2 + a0 + a0 * (1 + 2 * a1) + a5 * (1 + a4) + a7 * (1 + a6)

/-- A row of the table: what a function that reaches no memory gives. -/
abbrev PureOk (f : Nat) (g : List SV → Option (List Prop × SV)) : Prop := ∀ args ob V, g args = some (ob, V) → AllP ob → SV.okhs (fun _ => false) args = true ∧ V.okh (fun _ => false) = true ∧ Gives Try.prog f args [] (Is V [])

def rightS : List SV → Option (List Prop × SV)
  | [.agg [.int .i64 a0, .int .i64 a1, .int .i64 a2, .int .i64 a3, .int .i64 a4, .int .i64 a5, .int .i64 a6, .int .i64 a7, .int .i64 a8]] => some ([], .bool (rightB a0 a1 a2 a3 a4 a5 a6 a7 a8))
  | _ => none
theorem rightS_ok {f : Nat} (h : ∀ a0 a1 a2 a3 a4 a5 a6 a7 a8, Gives Try.prog f [C9 a0 a1 a2 a3 a4 a5 a6 a7 a8] [] (Is (.bool (rightB a0 a1 a2 a3 a4 a5 a6 a7 a8)) [])) : PureOk f rightS := by
  intro args ob V hs _
  unfold rightS at hs
  split at hs
  · simp at hs; obtain ⟨rfl, rfl⟩ := hs; exact ⟨rfl, rfl, h _ _ _ _ _ _ _ _ _⟩
  · simp at hs

def ctR : Nat → Option Hx.Spec
  | 70 => some (pureS rightS)
  | _ => none
theorem ctR_ok : ∀ f s args H ob V L, ctR f = some s → s args H = some (ob, V, L) → AllP ob → Gives Try.prog f args H (Is V L) := by
  intro f s args H ob V L h hs ho
  unfold ctR at h
  split at h
  · simp at h; subst h; exact pureS_ok ⟨_, hTE⟩ (rightS_ok right70) hs ho
  · simp at h
noncomputable def XR : Tabs := tabs tr ft xt (fun _ => none) ctR 20
theorem hXR : TOk Try.prog XR := ⟨hTE, hFT, ctR_ok, hXT, fun t ks h => by simp [XR, tabs] at h, mixed⟩

end Go.Proofs.Ytfdkaakllceebaa
