/- What an arena is made as: each word. -/
import Derived.Test.YtkkddjchkkaagaaGreatDoorMakeLaw
namespace Go.Proofs.YtkkddjchkkaagaaGreatDoor
open Go Go.Hx
set_option maxRecDepth 8000

/-! What an arena is made as: heads, and what is behind each block. -/
section
variable {a0 a1 a2 a3 a4 a5 a6 a7 a8 : Int} (hr : rightB a0 a1 a2 a3 a4 a5 a6 a7 a8 = true)
include hr
theorem block_lt {b : Int} (h1 : 1 ≤ b) : ∀ n : Nat, b + 1 + n ≤ a5 + a7 → blockV a0 a1 a2 a4 a5 a6 a7 b < blockV a0 a1 a2 a4 a5 a6 a7 (b + 1 + n)
  | 0, h => by
    have hr' := right_iff.1 hr
    have e := block_next hr h1 (by omega)
    have : 0 ≤ (if b ≤ a5 then a4 else a6) := by split <;> omega
    rw [show b + 1 + ((0 : Nat) : Int) = b + 1 by omega, e]; omega
  | n + 1, h => by
    have hr' := right_iff.1 hr
    have ih := block_lt h1 n (by omega)
    have e := block_next hr (b := b + 1 + n) (by omega) (by omega)
    have : 0 ≤ (if b + 1 + n ≤ a5 then a4 else a6) := by split <;> omega
    rw [show b + 1 + ((n + 1 : Nat) : Int) = b + 1 + n + 1 by omega, e]; omega
theorem block_inj {b d : Int} (h1 : 1 ≤ b) (h2 : b ≤ a5 + a7) (h3 : 1 ≤ d) (h4 : d ≤ a5 + a7) (h : blockV a0 a1 a2 a4 a5 a6 a7 b = blockV a0 a1 a2 a4 a5 a6 a7 d) : b = d := by
  rcases Int.lt_trichotomy b d with q | q | q
  · have := block_lt hr h1 (d - b - 1).toNat (by omega)
    rw [show b + 1 + (((d - b - 1).toNat : Nat) : Int) = d by omega] at this
    omega
  · exact q
  · have := block_lt hr h3 (b - d - 1).toNat (by omega)
    rw [show d + 1 + (((b - d - 1).toNat : Nat) : Int) = b by omega] at this
    omega
theorem mk0_get (j : Nat) : (mk0 (sizeV a0 a1 a2 a4 a5 a6 a7).toNat (packV a0 a1 a2 a3 a4 a5 a6 a7 a8) a5 a7).W.getD j 0 =
    if j = 0 then magicV else if j = 1 then packV a0 a1 a2 a3 a4 a5 a6 a7 a8 else if j = 3 then (if 0 < a5 then 1 else 0) else if j = 4 then (if 0 < a7 then 1 + a5 else 0) else 0 := by
  have hn := size_bd hr
  have hz : ∀ N j : Nat, (List.replicate N (0 : Int)).getD j 0 = 0 := by
    intro N j; simp [List.getD_eq_getElem?_getD, List.getElem?_replicate]; split <;> simp
  have hl : 5 ≤ (sizeV a0 a1 a2 a4 a5 a6 a7).toNat := by omega
  by_cases h5 : 0 < a5 <;> by_cases h7 : 0 < a7 <;> simp only [mk0, sto, h5, h7, if_true, if_false, set_getD, hz, List.length_set, List.length_replicate]
  all_goals
    repeat' split
    all_goals first | rfl | omega
theorem mkN_next {b : Int} (h1 : 1 ≤ b) (h2 : b ≤ a5 + a7) : ∀ m : Nat, (m : Int) + 1 ≤ a5 + a7 →
    (mkN a0 a1 a2 a4 a5 a6 a7 (mk0 (sizeV a0 a1 a2 a4 a5 a6 a7).toNat (packV a0 a1 a2 a3 a4 a5 a6 a7 a8) a5 a7) m).W.getD (blockV a0 a1 a2 a4 a5 a6 a7 b).toNat 0 = if b ≤ m ∧ classV a5 a7 b = classV a5 a7 (b + 1) then b + 1 else 0
  | 0, _ => by
    have hb := block_low hr h1 h2
    have hr' := right_iff.1 hr
    rw [mkN, mk0_get hr, if_neg (by omega), if_neg (by omega), if_neg (by omega), if_neg (by omega), if_neg (by omega)]
  | m + 1, h => by
    have hr' := right_iff.1 hr
    have ih := mkN_next h1 h2 m (by omega)
    have hb := block_range hr h1 h2
    have hb' := block_range hr (b := (m : Int) + 1) (by omega) (by omega)
    rw [mkN]
    by_cases e : b = (m : Int) + 1
    · subst e
      split
      · rename_i hc
        simp only [sto]
        rw [set_getD, if_pos ⟨rfl, by rw [mkN_len, mk0_len]; omega⟩, if_pos ⟨by omega, hc⟩]
      · rename_i hc
        rw [ih, if_neg (by omega), if_neg (by intro h; exact hc h.2)]
    · have hne : blockV a0 a1 a2 a4 a5 a6 a7 ((m : Int) + 1) ≠ blockV a0 a1 a2 a4 a5 a6 a7 b := fun h => e (block_inj hr (by omega) (by omega) h1 h2 h).symm
      have hi : (if b ≤ m ∧ classV a5 a7 b = classV a5 a7 (b + 1) then b + 1 else 0) = (if b ≤ ((m + 1 : Nat) : Int) ∧ classV a5 a7 b = classV a5 a7 (b + 1) then b + 1 else 0) := by
        have : b ≤ (m : Int) ↔ b ≤ ((m + 1 : Nat) : Int) := by omega
        simp only [this]
      split
      · rw [sto_low _ (by omega), ih, hi]
      · rw [ih, hi]
/-- What is behind a block. -/
theorem mkA_next {b : Int} (h1 : 1 ≤ b) (h2 : b ≤ a5 + a7) : (mkA a0 a1 a2 a3 a4 a5 a6 a7 a8).W.getD (blockV a0 a1 a2 a4 a5 a6 a7 b).toNat 0 = if b + 1 ≤ a5 + a7 ∧ classV a5 a7 b = classV a5 a7 (b + 1) then b + 1 else 0 := by
  unfold mkA
  rw [mkN_next hr h1 h2 _ (by omega)]
  have : b ≤ (((a5 + a7 - 1).toNat : Nat) : Int) ↔ b + 1 ≤ a5 + a7 := by omega
  simp only [this]
theorem mkN_low {j : Nat} (hj : j < 5) : ∀ m : Nat, (m : Int) ≤ a5 + a7 →
    (mkN a0 a1 a2 a4 a5 a6 a7 (mk0 (sizeV a0 a1 a2 a4 a5 a6 a7).toNat (packV a0 a1 a2 a3 a4 a5 a6 a7 a8) a5 a7) m).W.getD j 0 = (mk0 (sizeV a0 a1 a2 a4 a5 a6 a7).toNat (packV a0 a1 a2 a3 a4 a5 a6 a7 a8) a5 a7).W.getD j 0
  | 0, _ => rfl
  | m + 1, h => by
    have hr' := right_iff.1 hr
    have hb := block_low hr (b := (m : Int) + 1) (by omega) (by omega)
    rw [mkN]
    split
    · rw [sto_low _ (by omega)]; exact mkN_low hj m (by omega)
    · exact mkN_low hj m (by omega)
theorem mkA_low {j : Nat} (hj : j < 5) : (mkA a0 a1 a2 a3 a4 a5 a6 a7 a8).W.getD j 0 =
    if j = 0 then magicV else if j = 1 then packV a0 a1 a2 a3 a4 a5 a6 a7 a8 else if j = 3 then (if 0 < a5 then 1 else 0) else if j = 4 then (if 0 < a7 then 1 + a5 else 0) else 0 := by
  have hr' := right_iff.1 hr
  unfold mkA
  rw [mkN_low hr hj _ (by omega), mk0_get hr]
theorem pack_bd : packV a0 a1 a2 a3 a4 a5 a6 a7 a8 < 18446744073709551616 := by
  have hr' := right_iff.1 hr
  unfold packV; omega
/-- Each word is one. -/
theorem mkA_bd (j : Nat) : 0 ≤ (mkA a0 a1 a2 a3 a4 a5 a6 a7 a8).W.getD j 0 ∧ (mkA a0 a1 a2 a3 a4 a5 a6 a7 a8).W.getD j 0 < 18446744073709551616 := by
  have hr' := right_iff.1 hr
  have hp := pack_bd hr
  have hp' := pack_pos hr
  have h0 : ∀ j, 0 ≤ (mk0 (sizeV a0 a1 a2 a4 a5 a6 a7).toNat (packV a0 a1 a2 a3 a4 a5 a6 a7 a8) a5 a7).W.getD j 0 ∧ (mk0 (sizeV a0 a1 a2 a4 a5 a6 a7).toNat (packV a0 a1 a2 a3 a4 a5 a6 a7 a8) a5 a7).W.getD j 0 < 18446744073709551616 := by
    intro j
    rw [mk0_get hr]
    have : (0 : Int) ≤ magicV ∧ magicV < 18446744073709551616 := by decide
    repeat' split
    all_goals omega
  have hN : ∀ m : Nat, (m : Int) ≤ a5 + a7 → ∀ j, 0 ≤ (mkN a0 a1 a2 a4 a5 a6 a7 (mk0 (sizeV a0 a1 a2 a4 a5 a6 a7).toNat (packV a0 a1 a2 a3 a4 a5 a6 a7 a8) a5 a7) m).W.getD j 0 ∧ (mkN a0 a1 a2 a4 a5 a6 a7 (mk0 (sizeV a0 a1 a2 a4 a5 a6 a7).toNat (packV a0 a1 a2 a3 a4 a5 a6 a7 a8) a5 a7) m).W.getD j 0 < 18446744073709551616 := by
    intro m
    induction m with
    | zero => intro _; exact h0
    | succ m ih =>
      intro hm j
      rw [mkN]
      split
      · simp only [sto]
        rw [set_getD]
        split
        · omega
        · exact ih (by omega) j
      · exact ih (by omega) j
  exact hN _ (by omega) j
end

end Go.Proofs.YtkkddjchkkaagaaGreatDoor
