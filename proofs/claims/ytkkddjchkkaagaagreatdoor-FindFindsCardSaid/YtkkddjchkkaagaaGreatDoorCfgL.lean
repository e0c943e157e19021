/- Numbers that a statement makes of what came in. -/
import Derived.Test.YtkkddjchkkaagaaGreatDoorRight
namespace Go.Proofs.YtkkddjchkkaagaaGreatDoor
open Go Go.Hx
set_option maxRecDepth 8000

theorem andB {m : Nat} (x M : Int) (hM : M = 2 ^ m - 1) (hm : m ≤ 32) : 0 ≤ ibits .and .i64 x M ∧ ibits .and .i64 x M ≤ M := by
  subst hM
  have e2 : ((2 : Int) ^ m - 1) = ((2 ^ m - 1 : Nat) : Int) := by
    have : 1 ≤ 2 ^ m := Nat.one_le_two_pow
    rw [Int.ofNat_sub this]; norm_cast
  have hlt : 2 ^ m ≤ 2 ^ 32 := Nat.pow_le_pow_right (by decide) hm
  have e3 : (BitVec.ofInt IntKind.i64.bits ((2 : Int) ^ m - 1)).toNat = 2 ^ m - 1 := by
    rw [e2]
    show (BitVec.ofInt 64 ((2 ^ m - 1 : Nat) : Int)).toNat = _
    rw [BitVec.ofInt_natCast, BitVec.toNat_ofNat]
    exact Nat.mod_eq_of_lt (by omega)
  have h : (BitVec.ofInt IntKind.i64.bits x &&& BitVec.ofInt IntKind.i64.bits ((2 : Int) ^ m - 1)).toNat = (BitVec.ofInt IntKind.i64.bits x).toNat % 2 ^ m := by
    rw [BitVec.toNat_and, e3]
    exact Nat.and_two_pow_sub_one_eq_mod _ m
  have h2 : (BitVec.ofInt IntKind.i64.bits x).toNat % 2 ^ m < 2 ^ m := Nat.mod_lt _ (Nat.two_pow_pos m)
  simp only [ibits, h]
  rw [wi64 (by omega) (by omega), e2]
  omega
theorem and7 (x : Int) : 0 ≤ ibits .and .i64 x 7 ∧ ibits .and .i64 x 7 ≤ 7 := andB (m := 3) x 7 (by decide) (by decide)
theorem and3 (x : Int) : 0 ≤ ibits .and .i64 x 3 ∧ ibits .and .i64 x 3 ≤ 3 := andB (m := 2) x 3 (by decide) (by decide)

def cAnd (m x : Int) : Int := IntKind.i64.wrap (1 + ibits .and .i64 x m)
def cMod (d x : Int) : Int := (IntKind.i64.wrap (x.tmod d + d)).tmod d
def cRem (a d x : Int) : Int := IntKind.i64.wrap (a + cMod d x)
theorem cAnd7 (x : Int) : 1 ≤ cAnd 7 x ∧ cAnd 7 x ≤ 8 := by
  have := and7 x
  unfold cAnd; rw [wi64 (by omega) (by omega)]; omega
theorem cAnd3 (x : Int) : 1 ≤ cAnd 3 x ∧ cAnd 3 x ≤ 4 := by
  have := and3 x
  unfold cAnd; rw [wi64 (by omega) (by omega)]; omega
theorem cModB (d x : Int) (h : 0 < d) (h' : d ≤ 1000000) : 0 ≤ cMod d x ∧ cMod d x < d := by
  have h1 : -d < x.tmod d := Int.lt_tmod_of_pos x h
  have h2 := Int.tmod_lt_of_pos x h
  unfold cMod
  rw [wi64 (by omega) (by omega), Int.tmod_eq_emod_of_nonneg (by omega)]
  exact ⟨Int.emod_nonneg _ (by omega), Int.emod_lt_of_pos _ h⟩
theorem cRemB (a d x : Int) (h : 0 < d) (h' : d ≤ 1000000) (h0 : 0 ≤ a) (h1 : a ≤ 1000000) : a ≤ cRem a d x ∧ cRem a d x < a + d := by
  have := cModB d x h h'
  unfold cRem; rw [wi64 (by omega) (by omega)]; omega
end Go.Proofs.YtkkddjchkkaagaaGreatDoor
