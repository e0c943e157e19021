/- What an arena is made as: the plain law. -/
import Derived.Test.YtkkddjchkkaagaaGreatDoorRSize
namespace Go.Proofs.YtkkddjchkkaagaaGreatDoor
open Go Go.Hx
set_option maxRecDepth 8000

structure MkS where
  (W : List Int) (st wd vl : Int)
def magicV : Int := 7597137583116413295
def sto (s : MkS) (i v : Int) : MkS := ⟨s.W.set i.toNat v, s.st + 1, i, v⟩
def mk0 (N : Nat) (pk a5 a7 : Int) : MkS :=
  let s := sto (sto ⟨List.replicate N 0, 0, 0, 0⟩ 0 magicV) 1 pk
  let s := if 0 < a5 then sto s 3 1 else s
  if 0 < a7 then sto s 4 (1 + a5) else s
def mkN (a0 a1 a2 a4 a5 a6 a7 : Int) (s : MkS) : Nat → MkS
  | 0 => s
  | m + 1 => if classV a5 a7 ((m : Int) + 1) = classV a5 a7 ((m : Int) + 1 + 1) then sto (mkN a0 a1 a2 a4 a5 a6 a7 s m) (blockV a0 a1 a2 a4 a5 a6 a7 ((m : Int) + 1)) ((m : Int) + 1 + 1) else mkN a0 a1 a2 a4 a5 a6 a7 s m
/-- What an arena of a right config is made as. -/
def mkA (a0 a1 a2 a3 a4 a5 a6 a7 a8 : Int) : MkS :=
  mkN a0 a1 a2 a4 a5 a6 a7 (mk0 (sizeV a0 a1 a2 a4 a5 a6 a7).toNat (packV a0 a1 a2 a3 a4 a5 a6 a7 a8) a5 a7) (a5 + a7 - 1).toNat

theorem size_bd {a0 a1 a2 a3 a4 a5 a6 a7 a8 : Int} (hr : rightB a0 a1 a2 a3 a4 a5 a6 a7 a8 = true) : 5 ≤ sizeV a0 a1 a2 a4 a5 a6 a7 ∧ sizeV a0 a1 a2 a4 a5 a6 a7 ≤ 4096 := by
  have hr' := right_iff.1 hr
  have m1 := mulB (x := a0) (y := 1 + 2 * a1) (X := 8) (Y := 65) (by omega) (by omega) (by omega) (by omega)
  have m2 := mulB (x := a5) (y := 1 + a4) (X := 12) (Y := 97) (by omega) (by omega) (by omega) (by omega)
  have m3 := mulB (x := a7) (y := 1 + a6) (X := 12) (Y := 97) (by omega) (by omega) (by omega) (by omega)
  unfold sizeV; omega

theorem block_range {a0 a1 a2 a3 a4 a5 a6 a7 a8 : Int} (hr : rightB a0 a1 a2 a3 a4 a5 a6 a7 a8 = true) {b : Int} (h1 : 1 ≤ b) (h2 : b ≤ a5 + a7) : 0 ≤ blockV a0 a1 a2 a4 a5 a6 a7 b ∧ blockV a0 a1 a2 a4 a5 a6 a7 b < sizeV a0 a1 a2 a4 a5 a6 a7 := by
  have hr' := right_iff.1 hr
  have m0 := mulB (x := a0) (y := 1 + 2 * a1) (X := 8) (Y := 65) (by omega) (by omega) (by omega) (by omega)
  have m3 := mulB (x := a7) (y := 1 + a6) (X := 12) (Y := 97) (by omega) (by omega) (by omega) (by omega)
  rw [blockV, if_pos ⟨h1, h2⟩, atV, sizeV]
  by_cases hb : b ≤ a5
  · have e1 : minV (b - 1) a5 = b - 1 := by unfold minV; split <;> omega
    have e2 : b - 1 - (b - 1) = 0 := by omega
    have e3 : (b - 1) * (1 + a4) ≤ (a5 - 1) * (1 + a4) := Int.mul_le_mul_of_nonneg_right (by omega) (by omega)
    have e4 : 0 ≤ (b - 1) * (1 + a4) := Int.mul_nonneg (by omega) (by omega)
    have e5 : (a5 - 1) * (1 + a4) = a5 * (1 + a4) - (1 + a4) := by rw [Int.sub_mul]; omega
    rw [e1, e2]; omega
  · have e1 : minV (b - 1) a5 = a5 := by unfold minV; split <;> omega
    have e3 : (b - 1 - a5) * (1 + a6) ≤ (a7 - 1) * (1 + a6) := Int.mul_le_mul_of_nonneg_right (by omega) (by omega)
    have e4 : 0 ≤ (b - 1 - a5) * (1 + a6) := Int.mul_nonneg (by omega) (by omega)
    have e5 : (a7 - 1) * (1 + a6) = a7 * (1 + a6) - (1 + a6) := by rw [Int.sub_mul]; omega
    have e6 : 0 ≤ a5 * (1 + a4) := Int.mul_nonneg (by omega) (by omega)
    rw [e1]; omega
theorem block_low {a0 a1 a2 a3 a4 a5 a6 a7 a8 : Int} (hr : rightB a0 a1 a2 a3 a4 a5 a6 a7 a8 = true) {b : Int} (h1 : 1 ≤ b) (h2 : b ≤ a5 + a7) : 5 + a2 + a0 + a0 * (1 + 2 * a1) ≤ blockV a0 a1 a2 a4 a5 a6 a7 b ∧ 0 ≤ a0 * (1 + 2 * a1) := by
  have hr' := right_iff.1 hr
  have m0 := mulB (x := a0) (y := 1 + 2 * a1) (X := 8) (Y := 65) (by omega) (by omega) (by omega) (by omega)
  rw [blockV, if_pos ⟨h1, h2⟩, atV]
  have q := minV_le (b - 1) a5
  have e3 : 0 ≤ minV (b - 1) a5 * (1 + a4) := Int.mul_nonneg (by omega) (by omega)
  have e4 : 0 ≤ (b - 1 - minV (b - 1) a5) * (1 + a6) := Int.mul_nonneg (by omega) (by omega)
  omega

theorem sto_len (s : MkS) (i v : Int) : (sto s i v).W.length = s.W.length := by simp [sto]
theorem mk0_len (N : Nat) (pk a5 a7 : Int) : (mk0 N pk a5 a7).W.length = N := by
  unfold mk0; simp only; split <;> split <;> simp [sto_len]
theorem mk0_st (N : Nat) (pk a5 a7 : Int) : 2 ≤ (mk0 N pk a5 a7).st ∧ (mk0 N pk a5 a7).st ≤ 4 := by
  unfold mk0; simp only; split <;> split <;> simp [sto]
theorem mkN_len (a0 a1 a2 a4 a5 a6 a7 : Int) (s : MkS) : ∀ m, (mkN a0 a1 a2 a4 a5 a6 a7 s m).W.length = s.W.length
  | 0 => rfl
  | m + 1 => by unfold mkN; split <;> simp [sto_len, mkN_len a0 a1 a2 a4 a5 a6 a7 s m]
theorem mkN_st (a0 a1 a2 a4 a5 a6 a7 : Int) (s : MkS) : ∀ m : Nat, s.st ≤ (mkN a0 a1 a2 a4 a5 a6 a7 s m).st ∧ (mkN a0 a1 a2 a4 a5 a6 a7 s m).st ≤ s.st + m
  | 0 => by simp [mkN]
  | m + 1 => by
    have := mkN_st a0 a1 a2 a4 a5 a6 a7 s m
    unfold mkN
    split
    · simp only [sto]; omega
    · omega
theorem mkN_no {a0 a1 a2 a4 a5 a6 a7 : Int} {s : MkS} {m : Nat} (h : ¬ classV a5 a7 ((m : Int) + 1) = classV a5 a7 ((m : Int) + 1 + 1)) : mkN a0 a1 a2 a4 a5 a6 a7 s (m + 1) = mkN a0 a1 a2 a4 a5 a6 a7 s m := by
  rw [mkN, if_neg h]
theorem mkN_yes {a0 a1 a2 a4 a5 a6 a7 : Int} {s : MkS} {m : Nat} (h : classV a5 a7 ((m : Int) + 1) = classV a5 a7 ((m : Int) + 1 + 1)) : mkN a0 a1 a2 a4 a5 a6 a7 s (m + 1) = sto (mkN a0 a1 a2 a4 a5 a6 a7 s m) (blockV a0 a1 a2 a4 a5 a6 a7 ((m : Int) + 1)) ((m : Int) + 1 + 1) := by
  rw [mkN, if_pos h]


theorem set_getD (W : List Int) (i j : Nat) (v : Int) : (W.set i v).getD j 0 = if i = j ∧ j < W.length then v else W.getD j 0 := by
  simp only [List.getD_eq_getElem?_getD, List.getElem?_set]
  by_cases h : i = j
  · subst h
    by_cases hl : i < W.length
    · simp [hl]
    · simp [hl]
  · simp [h]

theorem pack_pos {a0 a1 a2 a3 a4 a5 a6 a7 a8 : Int} (hr : rightB a0 a1 a2 a3 a4 a5 a6 a7 a8 = true) : 0 < packV a0 a1 a2 a3 a4 a5 a6 a7 a8 := by
  have := right_iff.1 hr
  unfold packV; omega
theorem mkA_len {a0 a1 a2 a3 a4 a5 a6 a7 a8 : Int} : (mkA a0 a1 a2 a3 a4 a5 a6 a7 a8).W.length = (sizeV a0 a1 a2 a4 a5 a6 a7).toNat := by
  unfold mkA; rw [mkN_len, mk0_len]
theorem sto_low (s : MkS) {i v : Int} {j : Nat} (h : i.toNat ≠ j) : (sto s i v).W.getD j 0 = s.W.getD j 0 := by
  simp only [sto]; rw [set_getD, if_neg (by omega)]
/-- Where nothing is laid, there is 0. -/
theorem mkA_zero {a0 a1 a2 a3 a4 a5 a6 a7 a8 : Int} (hr : rightB a0 a1 a2 a3 a4 a5 a6 a7 a8 = true) {j : Nat} (hj : j = 2 ∨ 5 ≤ j ∧ (j : Int) < 5 + a2 + a0 + a0 * (1 + 2 * a1)) :
    (mkA a0 a1 a2 a3 a4 a5 a6 a7 a8).W.getD j 0 = 0 := by
  have hr' := right_iff.1 hr
  have h0 : (mk0 (sizeV a0 a1 a2 a4 a5 a6 a7).toNat (packV a0 a1 a2 a3 a4 a5 a6 a7 a8) a5 a7).W.getD j 0 = 0 := by
    have hz : ∀ N : Nat, (List.replicate N (0 : Int)).getD j 0 = 0 := by
      intro N; simp [List.getD_eq_getElem?_getD, List.getElem?_replicate]; split <;> simp
    by_cases h5 : 0 < a5 <;> by_cases h7 : 0 < a7 <;> simp only [mk0, h5, h7, if_true, if_false]
    · rw [sto_low _ (by omega), sto_low _ (by omega), sto_low _ (by omega), sto_low _ (by omega)]; exact hz _
    · rw [sto_low _ (by omega), sto_low _ (by omega), sto_low _ (by omega)]; exact hz _
    · rw [sto_low _ (by omega), sto_low _ (by omega), sto_low _ (by omega)]; exact hz _
    · rw [sto_low _ (by omega), sto_low _ (by omega)]; exact hz _
  have hN : ∀ m : Nat, (m : Int) ≤ a5 + a7 → (mkN a0 a1 a2 a4 a5 a6 a7 (mk0 (sizeV a0 a1 a2 a4 a5 a6 a7).toNat (packV a0 a1 a2 a3 a4 a5 a6 a7 a8) a5 a7) m).W.getD j 0 = 0 := by
    intro m
    induction m with
    | zero => intro _; exact h0
    | succ m ih =>
      intro hm
      have hb := block_low hr (b := (m : Int) + 1) (by omega) (by omega)
      rw [mkN]
      split
      · rw [sto_low _ (by omega)]; exact ih (by omega)
      · exact ih (by omega)
  exact hN _ (by omega)
theorem mkA_st {a0 a1 a2 a3 a4 a5 a6 a7 a8 : Int} (hr : rightB a0 a1 a2 a3 a4 a5 a6 a7 a8 = true) : 2 ≤ (mkA a0 a1 a2 a3 a4 a5 a6 a7 a8).st ∧ (mkA a0 a1 a2 a3 a4 a5 a6 a7 a8).st ≤ 30 := by
  have hr' := right_iff.1 hr
  have h1 := mk0_st (sizeV a0 a1 a2 a4 a5 a6 a7).toNat (packV a0 a1 a2 a3 a4 a5 a6 a7 a8) a5 a7
  have h2 := mkN_st a0 a1 a2 a4 a5 a6 a7 (mk0 (sizeV a0 a1 a2 a4 a5 a6 a7).toNat (packV a0 a1 a2 a3 a4 a5 a6 a7 a8) a5 a7) (a5 + a7 - 1).toNat
  unfold mkA; omega
end Go.Proofs.YtkkddjchkkaagaaGreatDoor
