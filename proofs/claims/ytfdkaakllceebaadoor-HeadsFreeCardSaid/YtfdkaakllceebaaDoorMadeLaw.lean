/- HeadsFree: of an arena as made all blocks are free: the plain law. -/
import Derived.Test.YtfdkaakllceebaaDoorFreeLaw
namespace Go.Proofs.YtfdkaakllceebaaDoor
open Go Go.Hx
set_option maxRecDepth 8000
/-- Numbers in a row. -/
def upt (b : Int) : Nat → List Int
  | 0 => [b]
  | k + 1 => b :: upt (b + 1) k
theorem upt_mem {x : Int} : ∀ (k : Nat) (b : Int), x ∈ upt b k ↔ b ≤ x ∧ x ≤ b + k
  | 0, b => by simp [upt]; omega
  | k + 1, b => by
    rw [upt, List.mem_cons, upt_mem k (b + 1)]
    omega
section
variable {a0 a1 a2 a3 a4 a5 a6 a7 a8 c : Int} (hr : rightB a0 a1 a2 a3 a4 a5 a6 a7 a8 = true)
include hr
theorem mk_list : ∀ (k n : Nat) (b p : Int) (o : Option (List Int)), 1 ≤ b → b + k ≤ a5 + a7 → (∀ j : Nat, j ≤ k → classV a5 a7 (b + j) = c) → ¬ (b + k + 1 ≤ a5 + a7 ∧ classV a5 a7 (b + k + 1) = c) →
    (mkA a0 a1 a2 a3 a4 a5 a6 a7 a8).W.getD p.toNat 0 % 4294967296 = b → k + 1 < n → ((lst o).length : Int) + k + 1 = cntV c a5 a7 →
    hlF a0 a1 a2 a4 a5 a6 a7 c (mkA a0 a1 a2 a3 a4 a5 a6 a7 a8).W n p o = .ok (some (lst o ++ upt b k))
  | k, 0, _, _, _, _, _, _, _, _, h, _ => by omega
  | 0, n + 1, b, p, o, h1, h2, h3, h4, h5, h6, h7 => by
    have hc : classV a5 a7 b = c := by have := h3 0 (Nat.le_refl _); simpa using this
    have hrA := right_iff.1 hr
    rw [hl_go (by rw [h5]; omega) (by rw [h5]; exact hc) (by omega), h5]
    have hn := mkA_next hr (b := b) h1 (by omega)
    rw [if_neg (by rw [hc]; intro q; exact h4 ⟨by omega, by simpa using q.2.symm⟩)] at hn
    obtain ⟨n, rfl⟩ : ∃ m, n = m + 1 := ⟨n - 1, by omega⟩
    rw [hl_end (by rw [hn]; rfl)]
    rfl
  | k + 1, n + 1, b, p, o, h1, h2, h3, h4, h5, h6, h7 => by
    have hc : classV a5 a7 b = c := by have := h3 0 (Nat.zero_le _); simpa using this
    have hrA := right_iff.1 hr
    have hc1 : classV a5 a7 (b + 1) = c := by have := h3 1 (by omega); simpa using this
    rw [hl_go (by rw [h5]; omega) (by rw [h5]; exact hc) (by omega), h5]
    have hn := mkA_next hr (b := b) h1 (by omega)
    rw [if_pos ⟨by omega, by rw [hc, hc1]⟩] at hn
    have hl : (lst (some (lst o ++ [b]))).length = (lst o).length + 1 := by simp [lst]
    rw [mk_list k n (b + 1) (blockV a0 a1 a2 a4 a5 a6 a7 b) (some (lst o ++ [b])) (by omega) (by omega) (fun j hj => by have := h3 (j + 1) (by omega); rw [show b + 1 + (j : Int) = b + ((j + 1 : Nat) : Int) by omega]; exact this)
      (by rw [show b + 1 + (k : Int) + 1 = b + ((k + 1 : Nat) : Int) + 1 by omega]; exact h4) (by rw [hn]; omega) (by omega) (by rw [hl]; omega)]
    simp [lst, upt]
/-- What the lists of an arena as made are. -/
theorem mk_class0 : hlR a0 a1 a2 a4 a5 a6 a7 0 (mkA a0 a1 a2 a3 a4 a5 a6 a7 a8).W = .ok (if a5 = 0 then none else some (upt 1 (a5 - 1).toNat)) := by
  have hrA := right_iff.1 hr
  have h3 := mkA_low hr (j := 3) (by decide)
  simp only [show ¬ ((3 : Nat) = 0) by decide, show ¬ ((3 : Nat) = 1) by decide, if_false, if_true] at h3
  unfold hlR
  by_cases h0 : a5 = 0
  · rw [if_pos h0]
    rw [if_neg (by omega)] at h3
    exact hl_end (by rw [show ((3 : Int) + 0).toNat = 3 from rfl, h3]; rfl)
  · rw [if_neg h0]
    rw [if_pos (by omega)] at h3
    have := mk_list (c := 0) hr (a5 - 1).toNat 13 1 (3 + 0) none (by decide) (by omega) (fun j hj => by unfold classV; rw [if_pos (by omega), if_pos (by omega)]) (fun q => by
      have := q.2; unfold classV at this; rw [if_pos (by omega), if_neg (by omega)] at this; omega) (by rw [show ((3 : Int) + 0).toNat = 3 from rfl, h3]; rfl) (by omega) (by simp [lst, cntV]; omega)
    simpa [lst] using this
theorem mk_class1 : hlR a0 a1 a2 a4 a5 a6 a7 1 (mkA a0 a1 a2 a3 a4 a5 a6 a7 a8).W = .ok (if a7 = 0 then none else some (upt (1 + a5) (a7 - 1).toNat)) := by
  have hrA := right_iff.1 hr
  have h3 := mkA_low hr (j := 4) (by decide)
  simp only [show ¬ ((4 : Nat) = 0) by decide, show ¬ ((4 : Nat) = 1) by decide, show ¬ ((4 : Nat) = 3) by decide, if_false, if_true] at h3
  unfold hlR
  by_cases h0 : a7 = 0
  · rw [if_pos h0]
    rw [if_neg (by omega)] at h3
    exact hl_end (by rw [show ((3 : Int) + 1).toNat = 4 from rfl, h3]; rfl)
  · rw [if_neg h0]
    rw [if_pos (by omega)] at h3
    have := mk_list (c := 1) hr (a7 - 1).toNat 13 (1 + a5) (3 + 1) none (by omega) (by omega) (fun j hj => by unfold classV; rw [if_pos (by omega), if_neg (by omega)]) (fun q => by omega) (by rw [show ((3 : Int) + 1).toNat = 4 from rfl, h3]; omega) (by omega) (by simp [lst, cntV]; omega)
    simpa [lst] using this
end
/-- One to n. -/
def rngL (n : Nat) : List Int := (List.range n).map (fun (i : Nat) => (i : Int) + 1)
theorem rng_get {n i : Nat} (h : i < n) : (rngL n).getD i 0 = (i : Int) + 1 := by
  rw [List.getD_eq_getElem?_getD]
  simp [rngL, h]
theorem rng_len (n : Nat) : (rngL n).length = n := by simp [rngL]
theorem rng_mem {n : Nat} {x : Int} : x ∈ rngL n ↔ 1 ≤ x ∧ x ≤ n := by
  simp only [rngL, List.mem_map, List.mem_range]
  constructor
  · rintro ⟨i, hi, rfl⟩; omega
  · intro h; exact ⟨(x - 1).toNat, by omega, by omega⟩
theorem rng_asc (n : Nat) : (rngL n).Pairwise (· < ·) := by
  rw [List.pairwise_iff_getElem]
  intro i j hi hj hij
  simp [rngL]
  omega
variable {a0 a1 a2 a3 a4 a5 a6 a7 a8 : Int}
/-- All blocks of an arena as made are free. -/
theorem mk_free (hr : rightB a0 a1 a2 a3 a4 a5 a6 a7 a8 = true) : frR (hsR a0 a1 a2 a3 a4 a5 a6 a7 a8 0 (mkA a0 a1 a2 a3 a4 a5 a6 a7 a8).W.length (mkA a0 a1 a2 a3 a4 a5 a6 a7 a8).W) (hsR a0 a1 a2 a3 a4 a5 a6 a7 a8 1 (mkA a0 a1 a2 a3 a4 a5 a6 a7 a8).W.length (mkA a0 a1 a2 a3 a4 a5 a6 a7 a8).W) = .ok (if a5 + a7 = 0 then none else some (rngL (a5 + a7).toNat)) := by
  have hrA := right_iff.1 hr
  have hsz := size_bd hr
  have hn : ((mkA a0 a1 a2 a3 a4 a5 a6 a7 a8).W.length : Int) = sizeV a0 a1 a2 a4 a5 a6 a7 := by rw [mkA_len]; omega
  have e0 : hsR a0 a1 a2 a3 a4 a5 a6 a7 a8 0 (mkA a0 a1 a2 a3 a4 a5 a6 a7 a8).W.length (mkA a0 a1 a2 a3 a4 a5 a6 a7 a8).W = .ok (if a5 = 0 then none else some (upt 1 (a5 - 1).toNat)) := by
    unfold hsR; rw [if_pos ⟨hr, by decide, by decide⟩, if_pos hn, mk_class0 hr]
  have e1 : hsR a0 a1 a2 a3 a4 a5 a6 a7 a8 1 (mkA a0 a1 a2 a3 a4 a5 a6 a7 a8).W.length (mkA a0 a1 a2 a3 a4 a5 a6 a7 a8).W = .ok (if a7 = 0 then none else some (upt (1 + a5) (a7 - 1).toNat)) := by
    unfold hsR; rw [if_pos ⟨hr, by decide, by decide⟩, if_pos hn, mk_class1 hr]
  rw [e0, e1, free_hs (by omega) e0 e1]
  show HR.ok (rfO _ _ _) = _
  by_cases h0 : a5 + a7 = 0
  · rw [if_pos h0, show (a5 + a7).toNat = 0 by omega]; rfl
  · rw [if_neg h0, some_eq (s := rngL (a5 + a7).toNat) (fun e => by have := congrArg List.length e; rw [rng_len] at this; simp at this; omega) (rng_asc _) fun x => ?_]
    rw [rng_mem]
    constructor
    · intro h
      refine ⟨?_, h⟩
      by_cases h5 : x ≤ a5
      · left
        rw [if_neg (by omega)]
        show x ∈ upt 1 _
        rw [upt_mem]; omega
      · right
        rw [if_neg (by omega)]
        show x ∈ upt (1 + a5) _
        rw [upt_mem]; omega
    · exact fun h => h.2
/-- What is told of both: the sorted list is of both, rising, as long as both. -/
theorem fr_props {l m : List Int} (hl : l.Nodup) (hm : m.Nodup) (hd : ∀ x ∈ l, x ∉ m) : (srt (l ++ m)).Pairwise (· < ·) ∧ (srt (l ++ m)).length = l.length + m.length ∧ ∀ x ∈ srt (l ++ m), x ∈ l ∨ x ∈ m :=
  ⟨srt_asc (List.nodup_append.2 ⟨hl, hm, fun x hx y hy e => hd x hx (by rw [e]; exact hy)⟩), by rw [srt_len, List.length_append], fun x hx => by rw [(srt_perm _).mem_iff, List.mem_append] at hx; exact hx⟩
theorem asc_get {l : List Int} (h : l.Pairwise (· < ·)) {i : Nat} (hi : i + 1 < l.length) : l.getD i 0 < l.getD (i + 1) 0 := by
  have := (List.pairwise_iff_getElem.1 h) i (i + 1) (by omega) hi (by omega)
  rw [List.getD_eq_getElem?_getD, List.getElem?_eq_getElem (by omega : i < l.length), List.getD_eq_getElem?_getD, List.getElem?_eq_getElem hi]
  exact this
end Go.Proofs.YtfdkaakllceebaaDoor
