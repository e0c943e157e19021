/- PoolApart: the plain law. -/
import Derived.Test.YtmghcelohnlceaaPoolHeap
import Derived.Test.YtmghcelohnlceaaPoolFree
namespace Go.Proofs.Ytmghcelohnlceaa
open Go Go.Hx
set_option maxRecDepth 8000
theorem len_eq : ∀ (n : Nat) (l : List Int), (∀ b, l.count b = if 1 ≤ b ∧ b ≤ (n : Int) then 1 else 0) → l.length = n
  | 0, l, h => by
    cases l with
    | nil => rfl
    | cons x r =>
      have := h x
      rw [if_neg (by omega), List.count_cons_self] at this
      omega
  | n + 1, l, h => by
    have hm : ((n + 1 : Nat) : Int) ∈ l := by
      rw [← List.count_pos_iff, h, if_pos (by omega)]; decide
    have ih := len_eq n (l.erase ((n + 1 : Nat) : Int)) fun b => by
      rw [List.count_erase, h]
      by_cases e : b = ((n + 1 : Nat) : Int)
      · subst e
        rw [if_pos (by omega), if_pos (by simp), if_neg (by omega)]
      · have e' : ¬ (((n + 1 : Nat) : Int) == b) = true := by simpa using fun q => e q.symm
        rw [if_neg e']
        by_cases q : 1 ≤ b ∧ b ≤ (n : Int)
        · rw [if_pos q, if_pos (by omega)]
        · rw [if_neg q, if_neg (by omega)]
    rw [List.length_erase, if_pos hm] at ih
    have : 0 < l.length := List.length_pos_of_mem hm
    omega
def allQ (A B : Int) (L : Int → List Int) (k : Nat → Pk) : List Int :=
  frL (L 0) (L 1) (A + B).toNat ++ (lst (k 0).own ++ (k 0).ph.giv) ++ (lst (k 1).own ++ (k 1).ph.giv) ++ (lst (k 2).own ++ (k 2).ph.giv) ++ (lst (k 3).own ++ (k 3).ph.giv)
section
variable {A B : Int} {i : Nat} {W : List Int} {k : Nat → Pk} {L : Int → List Int}
theorem frL_count (h : InvQ A B i W k L) (b : Int) : (frL (L 0) (L 1) (A + B).toNat).count b = (L 0).count b + (L 1).count b := by
  have h0 := h.a0
  have h2 := h.b0
  have hc := h.cnt b
  have e : ((A + B).toNat : Int) = A + B := by omega
  unfold frL
  by_cases hp : (hasL (L 0) b || hasL (L 1) b) = true
  · rw [List.count_filter (p := fun b => hasL (L 0) b || hasL (L 1) b) hp, upto_count, e]
    have hm : 0 < (L 0).count b + (L 1).count b := by
      rw [Bool.or_eq_true, hasL_iff, hasL_iff] at hp
      rcases hp with hp | hp
      · have := List.count_pos_iff.2 hp; omega
      · have := List.count_pos_iff.2 hp; omega
    split at hc
    · rw [if_pos (by omega)]; omega
    · omega
  · have h1 : (L 0).count b = 0 := List.count_eq_zero.2 fun q => hp (by rw [Bool.or_eq_true, hasL_iff]; exact .inl q)
    have h2 : (L 1).count b = 0 := List.count_eq_zero.2 fun q => hp (by rw [Bool.or_eq_true, hasL_iff, hasL_iff]; exact .inr q)
    rw [h1, h2, List.count_eq_zero]
    intro q
    exact hp (List.mem_filter.1 q).2
theorem allQ_count (h : InvQ A B i W k L) (b : Int) : (allQ A B L k).count b = if 1 ≤ b ∧ b ≤ A + B then 1 else 0 := by
  rw [← h.cnt b]
  simp only [allQ, List.count_append, frL_count h, cntK, cnt1]
  omega
theorem allQ_len (h : InvQ A B i W k L) : (allQ A B L k).length = (A + B).toNat := by
  have h0 := h.a0
  have h2 := h.b0
  have e : ((A + B).toNat : Int) = A + B := by omega
  exact len_eq _ _ fun b => by rw [allQ_count h, e]
theorem allQ_nodup (h : InvQ A B i W k L) : (allQ A B L k).Nodup := by
  rw [List.nodup_iff_count]
  intro b
  rw [allQ_count h]
  split <;> omega
/-- None is there ahead of itself. -/
theorem nodup_has {l : List Int} (h : l.Nodup) {j : Nat} (hj : j < l.length) : hasL (l.take j) (l.getD j 0) = false := by
  rw [← Bool.not_eq_true, hasL_iff]
  intro hm
  have e : l = l.take j ++ l.getD j 0 :: l.drop (j + 1) := by
    rw [List.getD_eq_getElem?_getD, List.getElem?_eq_getElem hj, Option.getD_some, ← List.drop_eq_getElem_cons hj, List.take_append_drop]
  rw [e, List.nodup_append] at h
  exact h.2.2 _ hm _ (by simp) rfl
end
end Go.Proofs.Ytmghcelohnlceaa
