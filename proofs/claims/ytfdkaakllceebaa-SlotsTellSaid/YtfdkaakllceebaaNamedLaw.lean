/- Named blocks: the law. -/
import Derived.Test.YtfdkaakllceebaaMapKeys
import Derived.Test.YtfdkaakllceebaaSlotWords
namespace Go.Proofs.Ytfdkaakllceebaa
open Go Go.Hx
set_option maxRecDepth 8000
/-- Does a word name a block? -/
def okN (w : Int) : Bool := decide (¬ clientV w = -1) && decide (¬ blkV w = 0)
/-- A map of how often a block is named, by the first so many slots. -/
def mN (W : List Int) : Nat → List (Int × Int)
  | 0 => []
  | i + 1 => if okN (W.getD (5 + i) 0) = true then upM (blkV (W.getD (5 + i) 0)) (IntKind.i64.wrap (vlM (blkV (W.getD (5 + i) 0)) (mN W i) + 1)) (mN W i) else mN W i
def kN (W : List Int) (i : Nat) : List Int := (mN W i).map (·.1)
theorem kN_succ {W : List Int} {i : Nat} : kN W (i + 1) = if okN (W.getD (5 + i) 0) = true then (if blkV (W.getD (5 + i) 0) ∈ kN W i then kN W i else kN W i ++ [blkV (W.getD (5 + i) 0)]) else kN W i := by
  unfold kN
  rw [mN]
  split
  · rw [upM_keys]
  · rfl
theorem kN_len {W : List Int} : ∀ i, (kN W i).length ≤ i
  | 0 => Nat.le_refl 0
  | i + 1 => by
    have := kN_len (W := W) i
    rw [kN_succ]
    split
    · split
      · omega
      · simp; omega
    · omega
theorem mN_len {W : List Int} (i : Nat) : (mN W i).length ≤ i := by have := kN_len (W := W) i; unfold kN at this; simpa using this
theorem kN_mem {W : List Int} {x : Int} : ∀ {i : Nat}, x ∈ kN W i ↔ ∃ j, j < i ∧ okN (W.getD (5 + j) 0) = true ∧ blkV (W.getD (5 + j) 0) = x
  | 0 => ⟨fun h => (by cases h), fun ⟨j, hj, _⟩ => absurd hj (Nat.not_lt_zero j)⟩
  | i + 1 => by
    have ih := kN_mem (W := W) (x := x) (i := i)
    rw [kN_succ]
    constructor
    · intro h
      split at h
      · rename_i hok
        split at h
        · obtain ⟨j, h1, h2⟩ := ih.1 h; exact ⟨j, by omega, h2⟩
        · rcases List.mem_append.1 h with q | q
          · obtain ⟨j, h1, h2⟩ := ih.1 q; exact ⟨j, by omega, h2⟩
          · simp at q; subst q; exact ⟨i, by omega, hok, rfl⟩
      · obtain ⟨j, h1, h2⟩ := ih.1 h; exact ⟨j, by omega, h2⟩
    · rintro ⟨j, h1, h2, h3⟩
      by_cases e : j = i
      · subst e
        rw [if_pos h2]
        split
        · rename_i hm; rw [← h3]; exact hm
        · rw [← h3]; simp
      · have hx := ih.2 ⟨j, by omega, h2, h3⟩
        split
        · split
          · exact hx
          · exact List.mem_append.2 (.inl hx)
        · exact hx
/-- The named blocks, rising. -/
def nmV (W : List Int) : List Int := srt (kN W 8)
theorem nmV_mem {W : List Int} {x : Int} : x ∈ nmV W ↔ ∃ j, j < 8 ∧ okN (W.getD (5 + j) 0) = true ∧ blkV (W.getD (5 + j) 0) = x := by
  unfold nmV
  rw [(srt_perm _).mem_iff]
  exact kN_mem
theorem nmV_len {W : List Int} : (nmV W).length ≤ 8 := by unfold nmV; rw [srt_len]; exact kN_len 8
theorem slot_at {i : Nat} (h : i < 8) : slotF 1 4 8 4 4 2 6 2 2 (i : Int) = ((5 + i : Nat) : Int) := by
  unfold slotF slotV
  rw [if_pos (by omega)]
  omega
theorem right12 : rightB 1 4 8 4 4 2 6 2 2 = true := by decide
end Go.Proofs.Ytfdkaakllceebaa
