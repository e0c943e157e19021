/- Slots' words; is a number in a row? -/
import Derived.Test.YticejfomcekolaaDoorArenaSteps
namespace Go.Proofs.YticejfomcekolaaDoor
open Go Go.Hx
set_option maxRecDepth 8000


def u32 (n : Int) : Int := n % 4294967296
theorem u32_bd (n : Int) : 0 ≤ u32 n ∧ u32 n < 4294967296 := by unfold u32; omega
theorem wrap_u32 (n : Int) : IntKind.u32.wrap n = u32 n := by simp [IntKind.wrap, u32, IntKind.bits, IntKind.signed]
def markV (a b : Int) : Int := u32 (a + 1) * 4294967296 + u32 b
theorem or_hi {hi lo : Int} (h0 : 0 ≤ hi) (h1 : hi < 4294967296) (h2 : 0 ≤ lo) (h3 : lo < 4294967296) : ibits .or .u64 (hi * 4294967296) lo = hi * 4294967296 + lo := by
  obtain ⟨x, rfl⟩ := Int.eq_ofNat_of_zero_le h0
  obtain ⟨y, rfl⟩ := Int.eq_ofNat_of_zero_le h2
  have p : (2 : Nat) ^ 32 = 4294967296 := by decide
  have this := fun h1 h2 h3 => or_low (w := y) (v := x) (at' := 32) h1 h2 h3
  simp only [p] at this
  have this := this (by omega) (by decide) (by omega)
  have e : ((x * 4294967296 : Nat) : Int) = (x : Int) * 4294967296 := by omega
  have e2 : ((x * 4294967296 + y : Nat) : Int) = (x : Int) * 4294967296 + y := by rw [Int.natCast_add, e]
  rw [e, e2] at this
  rw [← this]
  show IntKind.u64.wrap _ = IntKind.u64.wrap _
  rw [BitVec.or_comm]
theorem wI1 (a b : Int) : u32 (IntKind.i64.wrap (a + b)) = u32 (a + b) := by
  simp [IntKind.wrap, u32, IntKind.bits, IntKind.signed]; omega

theorem getV_hi (w : Int) : getV w 32 32 = w / 4294967296 % 4294967296 := by
  have p : (2 : Int) ^ (32 : Int).toNat = 4294967296 := by decide
  unfold getV; rw [p]
theorem getV_lo (w : Int) : getV w 0 32 = w % 4294967296 := by
  have p : (2 : Int) ^ (32 : Int).toNat = 4294967296 := by decide
  have q : (2 : Int) ^ (0 : Int).toNat = 1 := by decide
  unfold getV; rw [p, q, Int.ediv_one]
def clientV (w : Int) : Int := w / 4294967296 - 1
def blkV (w : Int) : Int := w % 4294967296

def ctS1 : Nat → Option Hx.Spec
  | 49 => some (pureS getS)
  | _ => none
theorem ctS1_ok : ∀ f s args H ob V L, ctS1 f = some s → s args H = some (ob, V, L) → AllP ob → Gives Tryd.prog f args H (Is V L) := by
  intro f s args H ob V L h hs ho
  unfold ctS1 at h
  split at h
  · simp at h; subst h; exact pureS_ok ⟨_, hTE⟩ (getS_ok) hs ho
  · simp at h
noncomputable def XS1 : Tabs := tabs tr ft xt (fun _ => none) ctS1 20
theorem hXS1 : TOk Tryd.prog XS1 := ⟨hTE, hFT, ctS1_ok, hXT, fun t ks h => by simp [XS1, tabs] at h, mixed⟩

noncomputable def XS0 : Tabs := tabs tr ft xt (fun _ => none) (fun _ => none) 0
theorem hXS0 : TOk Tryd.prog XS0 := ⟨hTE, hFT, fun f s args H ob V L h => by simp [XS0, tabs] at h, hXT, fun t ks h => by simp [XS0, tabs] at h, mixed⟩
end Go.Proofs.YticejfomcekolaaDoor
