/- Heads: a list that is told has blocks of its class alone, each once. -/
import Derived.Test.YtfdkaakllceebaaDoorLaid
namespace Go.Proofs.YtfdkaakllceebaaDoor
open Go Go.Hx
set_option maxRecDepth 8000
section
variable {a0 a1 a2 a4 a5 a6 a7 c : Int} {W : List Int}
/-- The blocks from a word on. -/
def hch (a0 a1 a2 a4 a5 a6 a7 : Int) (W : List Int) : Int → List Int → Prop
  | p, [] => W.getD p.toNat 0 % 4294967296 = 0
  | p, b :: l => ¬ b = 0 ∧ W.getD p.toNat 0 % 4294967296 = b ∧ hch a0 a1 a2 a4 a5 a6 a7 W (blockV a0 a1 a2 a4 a5 a6 a7 b) l
theorem hch_one : ∀ {l m : List Int} {p : Int}, hch a0 a1 a2 a4 a5 a6 a7 W p l → hch a0 a1 a2 a4 a5 a6 a7 W p m → l = m
  | [], [], _, _, _ => rfl
  | [], b :: m, p, h1, h2 => by
    obtain ⟨q1, q2, _⟩ := h2
    have h1 : W.getD p.toNat 0 % 4294967296 = 0 := h1
    rw [h1] at q2
    exact absurd q2.symm q1
  | b :: l, [], p, h1, h2 => by
    obtain ⟨q1, q2, _⟩ := h1
    have h2 : W.getD p.toNat 0 % 4294967296 = 0 := h2
    rw [h2] at q2
    exact absurd q2.symm q1
  | b :: l, d :: m, p, h1, h2 => by
    obtain ⟨_, q2, q3⟩ := h1
    obtain ⟨_, r2, r3⟩ := h2
    have e : b = d := q2.symm.trans r2
    subst e
    rw [hch_one q3 r3]
theorem hch_tail : ∀ {l1 : List Int} {b : Int} {l2 : List Int} {p : Int}, hch a0 a1 a2 a4 a5 a6 a7 W p (l1 ++ b :: l2) → hch a0 a1 a2 a4 a5 a6 a7 W (blockV a0 a1 a2 a4 a5 a6 a7 b) l2
  | [], _, _, _, h => h.2.2
  | _ :: _, _, _, _, h => hch_tail h.2.2
theorem hch_nodup : ∀ {l : List Int} {p : Int}, hch a0 a1 a2 a4 a5 a6 a7 W p l → l.Nodup
  | [], _, _ => List.nodup_nil
  | b :: l, p, h => by
    refine List.nodup_cons.2 ⟨fun hm => ?_, hch_nodup h.2.2⟩
    obtain ⟨l1, l2, e⟩ := List.append_of_mem hm
    have h3 := h.2.2
    have h4 : hch a0 a1 a2 a4 a5 a6 a7 W (blockV a0 a1 a2 a4 a5 a6 a7 b) l2 := hch_tail (l1 := l1) (b := b) (by rw [← e]; exact h3)
    have h5 := hch_one h3 h4
    have := congrArg List.length h5
    rw [e] at this
    simp at this
    omega
theorem hl_chain : ∀ {n : Nat} {p : Int} {o r : Option (List Int)}, ((lst o).length : Int) ≤ cntV c a5 a7 → cntV c a5 a7 < n + (lst o).length → hlF a0 a1 a2 a4 a5 a6 a7 c W n p o = .ok r →
    ∃ l, lst r = lst o ++ l ∧ hch a0 a1 a2 a4 a5 a6 a7 W p l ∧ (∀ b ∈ l, classV a5 a7 b = c) ∧ ((lst r).length : Int) ≤ cntV c a5 a7 ∧ (r = none → o = none)
  | 0, _, _, _, h1, h2, _ => by omega
  | n + 1, p, o, r, h1, h2, h => by
    rw [hlF] at h
    split at h
    · rename_i hz
      simp only [HR.ok.injEq] at h
      subst h
      exact ⟨[], by simp, hz, by simp, h1, id⟩
    rename_i hz
    split at h
    · simp at h
    rename_i hc
    split at h
    · simp at h
    rename_i hf
    have hl : (lst (some (lst o ++ [W.getD p.toNat 0 % 4294967296]))).length = (lst o).length + 1 := by simp [lst]
    obtain ⟨l, e1, e2, e3, e4, e5⟩ := hl_chain (by rw [hl]; omega) (by rw [hl]; omega) h
    have hc' : classV a5 a7 (W.getD p.toNat 0 % 4294967296) = c := Classical.not_not.1 hc
    refine ⟨(W.getD p.toNat 0 % 4294967296) :: l, by rw [e1]; simp [lst], ⟨hz, rfl, e2⟩, fun b hb => ?_, e4, fun q => by have := e5 q; simp at this⟩
    rcases List.mem_cons.1 hb with rfl | hb
    · exact hc'
    · exact e3 b hb
end
variable {a0 a1 a2 a3 a4 a5 a6 a7 a8 c : Int} {W : List Int}
/-- What is told of a right config's words. -/
theorem hs_told {n : Nat} {r : Option (List Int)} (h : hsR a0 a1 a2 a3 a4 a5 a6 a7 a8 c n W = .ok r) : (lst r).Nodup ∧ (∀ b ∈ lst r, classV a5 a7 b = c) ∧ ((lst r).length : Int) ≤ cntV c a5 a7 := by
  rcases hs_split h with ⟨_, q⟩ | ⟨_, _, _, _, q⟩ | ⟨q1, q2, _, q3, _⟩
  · simp at q
  · simp at q
  · have hr := right_iff.1 q1
    have hc : 0 ≤ cntV c a5 a7 ∧ cntV c a5 a7 ≤ 12 := by unfold cntV; split <;> omega
    obtain ⟨l, e1, e2, e3, e4, _⟩ := hl_chain (o := none) (by simp [lst]; omega) (by simp [lst]; omega) q3.symm
    have e1 : lst r = l := by rw [e1]; rfl
    rw [e1]
    rw [e1] at e4
    exact ⟨hch_nodup e2, e3, e4⟩
theorem hl_bad {e p : Int} : ∀ {n : Nat} {q : Int} {o : Option (List Int)}, hlF a0 a1 a2 a4 a5 a6 a7 c W n q o = .bad e p → e = 10 ∨ e = 16
  | 0, _, _, h => by simp [hlF] at h
  | n + 1, q, o, h => by
    rw [hlF] at h
    split at h
    · simp at h
    split at h
    · simp only [HR.bad.injEq] at h; omega
    split at h
    · simp only [HR.bad.injEq] at h; omega
    exact hl_bad h
theorem hs_bad {n : Nat} {e p : Int} (h : hsR a0 a1 a2 a3 a4 a5 a6 a7 a8 c n W = .bad e p) : e = 10 ∨ e = 16 := by
  rcases hs_split h with ⟨_, q⟩ | ⟨_, _, _, _, q⟩ | ⟨_, _, _, q, _⟩
  · simp at q
  · simp at q
  · exact hl_bad q.symm
theorem hs_code {n : Nat} {r : HR} (h : hsR a0 a1 a2 a3 a4 a5 a6 a7 a8 c n W = r) (hr : rightB a0 a1 a2 a3 a4 a5 a6 a7 a8 = true) (hc : 0 ≤ c ∧ c ≤ 1) (hn : (n : Int) = sizeV a0 a1 a2 a4 a5 a6 a7) : isCode r = false := by
  rcases hs_split h with ⟨q, _⟩ | ⟨_, _, _, q, _⟩ | ⟨_, _, _, _, q⟩
  · exact absurd ⟨hr, hc⟩ q
  · exact absurd hn q
  · exact q
theorem hasL_iff {l : List Int} {n : Int} : hasL l n = true ↔ n ∈ l := by
  induction l with
  | nil => simp [hasL]
  | cons x l ih =>
    simp only [hasL]
    by_cases h : x = n
    · simp [h]
    · simp [h, ih, Ne.symm h]
/-- None is there ahead of itself. -/
theorem nodup_has {l : List Int} (h : l.Nodup) {j : Nat} (hj : j < l.length) : hasL (l.take j) (l.getD j 0) = false := by
  rw [← Bool.not_eq_true, hasL_iff]
  intro hm
  have e : l = l.take j ++ l.getD j 0 :: l.drop (j + 1) := by
    rw [List.getD_eq_getElem?_getD, List.getElem?_eq_getElem hj, Option.getD_some, ← List.drop_eq_getElem_cons hj, List.take_append_drop]
  rw [e, List.nodup_append] at h
  exact h.2.2 _ hm _ (by simp) rfl
end Go.Proofs.YtfdkaakllceebaaDoor
