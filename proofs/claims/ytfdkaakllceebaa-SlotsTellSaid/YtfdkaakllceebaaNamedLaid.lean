/- Named blocks: the words that are laid. -/
import Derived.Test.YtfdkaakllceebaaNamedWalk
import Derived.Test.YtfdkaakllceebaaSlotTab
import Derived.Test.YtfdkaakllceebaaRefArena
import Derived.Test.YtfdkaakllceebaaHyc
namespace Go.Proofs.Ytfdkaakllceebaa
open Go Go.Hx
set_option maxRecDepth 8000
theorem and32 {x : Int} (h0 : 0 ≤ x) (h1 : x < 18446744073709551616) : ibits .and .u64 x 4294967295 = x % 4294967296 := by
  have := and_mask (x := x.toNat) (n := 32) (by omega) (by omega)
  rw [show ((x.toNat : Nat) : Int) = x from by omega] at this
  simpa using this.trans (by rw [show ((x.toNat % 2 ^ 32 : Nat) : Int) = x % 4294967296 from by omega])
/-- The words as laid: the first so many of z, from slot 0 on. -/
def wdN (W : List Int) (z : List Int) : Nat → List Int
  | 0 => W
  | i + 1 => (wdN W z i).set (5 + i) (z.getD i 0)
/-- What the words name, as said. -/
def alN (z : List Int) : Nat → List Int
  | 0 => []
  | i + 1 => if okN (z.getD i 0) = true then alN z i ++ [blkV (z.getD i 0)] else alN z i
theorem wdN_len {W z : List Int} : ∀ i, (wdN W z i).length = W.length
  | 0 => rfl
  | i + 1 => by rw [wdN, List.length_set]; exact wdN_len i
theorem wdN_get {W z : List Int} (hl : 13 ≤ W.length) {j : Nat} (hj : j < 8) : ∀ {i : Nat}, (wdN W z i).getD (5 + j) 0 = if j < i then z.getD j 0 else W.getD (5 + j) 0
  | 0 => by rw [if_neg (by omega)]; rfl
  | i + 1 => by
    have ih := wdN_get (z := z) hl hj (i := i)
    rw [wdN, set_getD, wdN_len]
    by_cases e : j = i
    · subst e; rw [if_pos ⟨rfl, by omega⟩, if_pos (by omega)]
    · rw [if_neg (fun q => e (by omega)), ih]
      by_cases q : j < i
      · rw [if_pos q, if_pos (by omega)]
      · rw [if_neg q, if_neg (by omega)]
theorem alN_mem {z : List Int} {x : Int} : ∀ {i : Nat}, x ∈ alN z i ↔ ∃ j, j < i ∧ okN (z.getD j 0) = true ∧ blkV (z.getD j 0) = x
  | 0 => ⟨fun h => (by cases h), fun ⟨j, hj, _⟩ => absurd hj (Nat.not_lt_zero j)⟩
  | i + 1 => by
    have ih := alN_mem (z := z) (x := x) (i := i)
    rw [alN]
    constructor
    · intro h
      split at h
      · rename_i hok
        rcases List.mem_append.1 h with q | q
        · obtain ⟨j, h1, h2⟩ := ih.1 q; exact ⟨j, by omega, h2⟩
        · simp only [List.mem_singleton] at q; subst q; exact ⟨i, by omega, hok, rfl⟩
      · obtain ⟨j, h1, h2⟩ := ih.1 h; exact ⟨j, by omega, h2⟩
    · rintro ⟨j, h1, h2, h3⟩
      by_cases e : j = i
      · subst e
        rw [if_pos h2, ← h3]; exact List.mem_append.2 (.inr (List.mem_singleton.2 rfl))
      · have hx := ih.2 ⟨j, by omega, h2, h3⟩
        split
        · exact List.mem_append.2 (.inl hx)
        · exact hx
theorem okN_zero : okN 0 = false := by decide
theorem named_mem {W z : List Int} (hl : 13 ≤ W.length) (hz : ∀ j, j < 8 → W.getD (5 + j) 0 = 0) {x : Int} {n : Nat} (hn : n ≤ 8) : x ∈ nmV (wdN W z n) ↔ x ∈ alN z n := by
  rw [nmV_mem, alN_mem]
  constructor
  · rintro ⟨j, h1, h2, h3⟩
    rw [wdN_get hl h1] at h2 h3
    by_cases q : j < n
    · rw [if_pos q] at h2 h3; exact ⟨j, q, h2, h3⟩
    · rw [if_neg q, hz j h1, okN_zero] at h2; cases h2
  · rintro ⟨j, h1, h2, h3⟩
    refine ⟨j, by omega, ?_, ?_⟩
    · rw [wdN_get hl (by omega), if_pos h1]; exact h2
    · rw [wdN_get hl (by omega), if_pos h1]; exact h3
/-- The words of the new arena, at the slots. -/
theorem mk_slots {j : Nat} (hj : j < 8) : (mkA 1 4 8 4 4 2 6 2 2).W.getD (5 + j) 0 = 0 := mkA_zero right12 (.inr ⟨by omega, by omega⟩)
theorem mk_len : ((mkA 1 4 8 4 4 2 6 2 2).W.length : Int) = sizeV 1 4 8 4 2 6 2 := by
  have := size_bd right12
  rw [mkA_len]; omega
theorem mk_ge : 13 ≤ (mkA 1 4 8 4 4 2 6 2 2).W.length := by
  have h := mk_len
  have : (13 : Int) ≤ sizeV 1 4 8 4 2 6 2 := by decide
  omega
end Go.Proofs.Ytfdkaakllceebaa
