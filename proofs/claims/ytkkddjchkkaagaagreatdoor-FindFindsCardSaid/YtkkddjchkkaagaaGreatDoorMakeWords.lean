/- What an arena is made as: each word. -/
import Derived.Test.YtkkddjchkkaagaaGreatDoorMakeLaw
namespace Go.Proofs.YtkkddjchkkaagaaGreatDoor
open Go Go.Hx
set_option maxRecDepth 8000

/-! What an arena is made as: heads, and what is behind each block. -/
section
variable {a0 a1 a2 a3 a4 a5 a6 a7 a8 : Int} (hr : rightB a0 a1 a2 a3 a4 a5 a6 a7 a8 = true)
include hr
theorem mk0_get (j : Nat) : (mk0 (sizeV a0 a1 a2 a4 a5 a6 a7).toNat (packV a0 a1 a2 a3 a4 a5 a6 a7 a8) a5 a7).W.getD j 0 =
    if j = 0 then magicV else if j = 1 then packV a0 a1 a2 a3 a4 a5 a6 a7 a8 else if j = 3 then (if 0 < a5 then 1 else 0) else if j = 4 then (if 0 < a7 then 1 + a5 else 0) else 0 := by
  have hn := size_bd hr
  have hz : ∀ N j : Nat, (List.replicate N (0 : Int)).getD j 0 = 0 := by
    intro N j; simp [List.getD_eq_getElem?_getD, List.getElem?_replicate]; split <;> simp
  have hl : 5 ≤ (sizeV a0 a1 a2 a4 a5 a6 a7).toNat := by omega
  by_cases h5 : 0 < a5 <;> by_cases h7 : 0 < a7 <;> simp only [mk0, sto, h5, h7, if_true, if_false, set_getD, hz, List.length_set, List.length_replicate]
  all_goals
    repeat' split
    all_goals first | rfl | omega
theorem pack_bd : packV a0 a1 a2 a3 a4 a5 a6 a7 a8 < 18446744073709551616 := by
  have hr' := right_iff.1 hr
  unfold packV; omega
/-- Each word is one. -/
theorem mkA_bd (j : Nat) : 0 ≤ (mkA a0 a1 a2 a3 a4 a5 a6 a7 a8).W.getD j 0 ∧ (mkA a0 a1 a2 a3 a4 a5 a6 a7 a8).W.getD j 0 < 18446744073709551616 := by
  have hr' := right_iff.1 hr
  have hp := pack_bd hr
  have hp' := pack_pos hr
  have h0 : ∀ j, 0 ≤ (mk0 (sizeV a0 a1 a2 a4 a5 a6 a7).toNat (packV a0 a1 a2 a3 a4 a5 a6 a7 a8) a5 a7).W.getD j 0 ∧ (mk0 (sizeV a0 a1 a2 a4 a5 a6 a7).toNat (packV a0 a1 a2 a3 a4 a5 a6 a7 a8) a5 a7).W.getD j 0 < 18446744073709551616 := by
    intro j
    rw [mk0_get hr]
    have : (0 : Int) ≤ magicV ∧ magicV < 18446744073709551616 := by decide
    repeat' split
    all_goals omega
  have hN : ∀ m : Nat, (m : Int) ≤ a5 + a7 → ∀ j, 0 ≤ (mkN a0 a1 a2 a4 a5 a6 a7 (mk0 (sizeV a0 a1 a2 a4 a5 a6 a7).toNat (packV a0 a1 a2 a3 a4 a5 a6 a7 a8) a5 a7) m).W.getD j 0 ∧ (mkN a0 a1 a2 a4 a5 a6 a7 (mk0 (sizeV a0 a1 a2 a4 a5 a6 a7).toNat (packV a0 a1 a2 a3 a4 a5 a6 a7 a8) a5 a7) m).W.getD j 0 < 18446744073709551616 := by
    intro m
    induction m with
    | zero => intro _; exact h0
    | succ m ih =>
      intro hm j
      rw [mkN]
      split
      · simp only [sto]
        rw [set_getD]
        split
        · omega
        · exact ih (by omega) j
      · exact ih (by omega) j
  exact hN _ (by omega) j
end

end Go.Proofs.YtkkddjchkkaagaaGreatDoor
