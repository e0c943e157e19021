/- What an arena is made as: the plain law. -/
import Derived.Test.YtfdkaakllceebaaRSize
namespace Go.Proofs.Ytfdkaakllceebaa
open Go Go.Hx
set_option maxRecDepth 8000

structure MkS where
  (W : List Int) (st wd vl : Int)
def magicV : Int := 7597137583116413295
def sto (s : MkS) (i v : Int) : MkS := ⟨s.W.set i.toNat v, s.st + 1, i, v⟩
def mk0 (N : Nat) (pk a5 a7 : Int) : MkS :=
  let s := sto (sto ⟨List.replicate N 0, 0, 0, 0⟩ 0 magicV) 1 pk
  let s := if 0 < a5 then sto s 3 1 else s
  if 0 < a7 then sto s 4 (1 + a5) else s
def mkN (a0 a1 a2 a4 a5 a6 a7 : Int) (s : MkS) : Nat → MkS
  | 0 => s
  | m + 1 => if classV a5 a7 ((m : Int) + 1) = classV a5 a7 ((m : Int) + 1 + 1) then sto (mkN a0 a1 a2 a4 a5 a6 a7 s m) (blockV a0 a1 a2 a4 a5 a6 a7 ((m : Int) + 1)) ((m : Int) + 1 + 1) else mkN a0 a1 a2 a4 a5 a6 a7 s m
/-- What an arena of a right config is made as. -/
def mkA (a0 a1 a2 a3 a4 a5 a6 a7 a8 : Int) : MkS :=
  mkN a0 a1 a2 a4 a5 a6 a7 (mk0 (sizeV a0 a1 a2 a4 a5 a6 a7).toNat (packV a0 a1 a2 a3 a4 a5 a6 a7 a8) a5 a7) (a5 + a7 - 1).toNat

theorem size_bd {a0 a1 a2 a3 a4 a5 a6 a7 a8 : Int} (hr : rightB a0 a1 a2 a3 a4 a5 a6 a7 a8 = true) : 5 ≤ sizeV a0 a1 a2 a4 a5 a6 a7 ∧ sizeV a0 a1 a2 a4 a5 a6 a7 ≤ 4096 := by
  have hr' := right_iff.1 hr
  have m1 := mulB (x := a0) (y := 1 + 2 * a1) (X := 8) (Y := 65) (by omega) (by omega) (by omega) (by omega)
  have m2 := mulB (x := a5) (y := 1 + a4) (X := 12) (Y := 97) (by omega) (by omega) (by omega) (by omega)
  have m3 := mulB (x := a7) (y := 1 + a6) (X := 12) (Y := 97) (by omega) (by omega) (by omega) (by omega)
  unfold sizeV; omega

theorem block_range {a0 a1 a2 a3 a4 a5 a6 a7 a8 : Int} (hr : rightB a0 a1 a2 a3 a4 a5 a6 a7 a8 = true) {b : Int} (h1 : 1 ≤ b) (h2 : b ≤ a5 + a7) : 0 ≤ blockV a0 a1 a2 a4 a5 a6 a7 b ∧ blockV a0 a1 a2 a4 a5 a6 a7 b < sizeV a0 a1 a2 a4 a5 a6 a7 := by
  have hr' := right_iff.1 hr
  have m0 := mulB (x := a0) (y := 1 + 2 * a1) (X := 8) (Y := 65) (by omega) (by omega) (by omega) (by omega)
  have m3 := mulB (x := a7) (y := 1 + a6) (X := 12) (Y := 97) (by omega) (by omega) (by omega) (by omega)
  rw [blockV, if_pos ⟨h1, h2⟩, atV, sizeV]
  by_cases hb : b ≤ a5
  · have e1 : minV (b - 1) a5 = b - 1 := by unfold minV; split <;> omega
    have e2 : b - 1 - (b - 1) = 0 := by omega
    have e3 : (b - 1) * (1 + a4) ≤ (a5 - 1) * (1 + a4) := Int.mul_le_mul_of_nonneg_right (by omega) (by omega)
    have e4 : 0 ≤ (b - 1) * (1 + a4) := Int.mul_nonneg (by omega) (by omega)
    have e5 : (a5 - 1) * (1 + a4) = a5 * (1 + a4) - (1 + a4) := by rw [Int.sub_mul]; omega
    rw [e1, e2]; omega
  · have e1 : minV (b - 1) a5 = a5 := by unfold minV; split <;> omega
    have e3 : (b - 1 - a5) * (1 + a6) ≤ (a7 - 1) * (1 + a6) := Int.mul_le_mul_of_nonneg_right (by omega) (by omega)
    have e4 : 0 ≤ (b - 1 - a5) * (1 + a6) := Int.mul_nonneg (by omega) (by omega)
    have e5 : (a7 - 1) * (1 + a6) = a7 * (1 + a6) - (1 + a6) := by rw [Int.sub_mul]; omega
    have e6 : 0 ≤ a5 * (1 + a4) := Int.mul_nonneg (by omega) (by omega)
    rw [e1]; omega
theorem block_low {a0 a1 a2 a3 a4 a5 a6 a7 a8 : Int} (hr : rightB a0 a1 a2 a3 a4 a5 a6 a7 a8 = true) {b : Int} (h1 : 1 ≤ b) (h2 : b ≤ a5 + a7) : 5 + a2 + a0 + a0 * (1 + 2 * a1) ≤ blockV a0 a1 a2 a4 a5 a6 a7 b ∧ 0 ≤ a0 * (1 + 2 * a1) := by
  have hr' := right_iff.1 hr
  have m0 := mulB (x := a0) (y := 1 + 2 * a1) (X := 8) (Y := 65) (by omega) (by omega) (by omega) (by omega)
  rw [blockV, if_pos ⟨h1, h2⟩, atV]
  have q := minV_le (b - 1) a5
  have e3 : 0 ≤ minV (b - 1) a5 * (1 + a4) := Int.mul_nonneg (by omega) (by omega)
  have e4 : 0 ≤ (b - 1 - minV (b - 1) a5) * (1 + a6) := Int.mul_nonneg (by omega) (by omega)
  omega
theorem block_next {a0 a1 a2 a3 a4 a5 a6 a7 a8 : Int} (hr : rightB a0 a1 a2 a3 a4 a5 a6 a7 a8 = true) {b : Int} (h1 : 1 ≤ b) (h2 : b + 1 ≤ a5 + a7) :
    blockV a0 a1 a2 a4 a5 a6 a7 (b + 1) = blockV a0 a1 a2 a4 a5 a6 a7 b + 1 + (if b ≤ a5 then a4 else a6) := by
  have hr' := right_iff.1 hr
  rw [blockV, if_pos ⟨by omega, h2⟩, blockV, if_pos ⟨h1, by omega⟩]
  exact at_next (by omega) h1

theorem sto_len (s : MkS) (i v : Int) : (sto s i v).W.length = s.W.length := by simp [sto]
theorem mk0_len (N : Nat) (pk a5 a7 : Int) : (mk0 N pk a5 a7).W.length = N := by
  unfold mk0; simp only; split <;> split <;> simp [sto_len]
theorem mk0_st (N : Nat) (pk a5 a7 : Int) : 2 ≤ (mk0 N pk a5 a7).st ∧ (mk0 N pk a5 a7).st ≤ 4 := by
  unfold mk0; simp only; split <;> split <;> simp [sto]
theorem mkN_len (a0 a1 a2 a4 a5 a6 a7 : Int) (s : MkS) : ∀ m, (mkN a0 a1 a2 a4 a5 a6 a7 s m).W.length = s.W.length
  | 0 => rfl
  | m + 1 => by unfold mkN; split <;> simp [sto_len, mkN_len a0 a1 a2 a4 a5 a6 a7 s m]
theorem mkN_st (a0 a1 a2 a4 a5 a6 a7 : Int) (s : MkS) : ∀ m : Nat, s.st ≤ (mkN a0 a1 a2 a4 a5 a6 a7 s m).st ∧ (mkN a0 a1 a2 a4 a5 a6 a7 s m).st ≤ s.st + m
  | 0 => by simp [mkN]
  | m + 1 => by
    have := mkN_st a0 a1 a2 a4 a5 a6 a7 s m
    unfold mkN
    split
    · simp only [sto]; omega
    · omega
theorem mkN_no {a0 a1 a2 a4 a5 a6 a7 : Int} {s : MkS} {m : Nat} (h : ¬ classV a5 a7 ((m : Int) + 1) = classV a5 a7 ((m : Int) + 1 + 1)) : mkN a0 a1 a2 a4 a5 a6 a7 s (m + 1) = mkN a0 a1 a2 a4 a5 a6 a7 s m := by
  rw [mkN, if_neg h]
theorem mkN_yes {a0 a1 a2 a4 a5 a6 a7 : Int} {s : MkS} {m : Nat} (h : classV a5 a7 ((m : Int) + 1) = classV a5 a7 ((m : Int) + 1 + 1)) : mkN a0 a1 a2 a4 a5 a6 a7 s (m + 1) = sto (mkN a0 a1 a2 a4 a5 a6 a7 s m) (blockV a0 a1 a2 a4 a5 a6 a7 ((m : Int) + 1)) ((m : Int) + 1 + 1) := by
  rw [mkN, if_pos h]

/-- How many words are not 0 among the first so many; which was the last of these, and what it is. -/
def refN (W : List Int) : Nat → Int × Int × Int
  | 0 => (0, 0, 0)
  | i + 1 => if W.getD i 0 = 0 then refN W i else ((refN W i).1 + 1, (i : Int), W.getD i 0)
theorem refN_congr {W V : List Int} : ∀ {n : Nat}, (∀ j, j < n → W.getD j 0 = V.getD j 0) → refN W n = refN V n
  | 0, _ => rfl
  | n + 1, h => by
    have ih := refN_congr (n := n) fun j hj => h j (by omega)
    rw [refN, refN, ih, h n (by omega)]
theorem refN_top {W : List Int} {a : Nat} (h : ∀ j, a ≤ j → W.getD j 0 = 0) : ∀ n, refN W (a + n) = refN W a
  | 0 => rfl
  | n + 1 => by rw [← Nat.add_assoc, refN, if_pos (h (a + n) (by omega)), refN_top h n]

/-- Words were laid at rising places. -/
structure Asc (s : MkS) : Prop where
  w0 : 0 ≤ s.wd
  wl : s.wd.toNat < s.W.length
  top : ∀ i, s.wd.toNat < i → s.W.getD i 0 = 0
  fin : refN s.W (s.wd.toNat + 1) = (s.st, s.wd, s.vl)
theorem set_getD (W : List Int) (i j : Nat) (v : Int) : (W.set i v).getD j 0 = if i = j ∧ j < W.length then v else W.getD j 0 := by
  simp only [List.getD_eq_getElem?_getD, List.getElem?_set]
  by_cases h : i = j
  · subst h
    by_cases hl : i < W.length
    · simp [hl]
    · simp [hl]
  · simp [h]
theorem Asc.first (N : Nat) (h : 0 < N) {v : Int} (hv : v ≠ 0) : Asc (sto ⟨List.replicate N 0, 0, 0, 0⟩ 0 v) := by
  have hz : ∀ j, (List.replicate N (0 : Int)).getD j 0 = 0 := by
    intro j; simp [List.getD_eq_getElem?_getD, List.getElem?_replicate]; split <;> simp
  refine ⟨by simp [sto], by simpa [sto] using h, fun i hi => ?_, ?_⟩
  · simp only [sto] at hi ⊢
    rw [set_getD, if_neg (by simp at hi ⊢; omega), hz]
  · have e : ((List.replicate N (0 : Int)).set 0 v).getD 0 0 = v := by rw [set_getD, if_pos ⟨rfl, by simpa using h⟩]
    simp only [sto, Int.toNat_zero, refN, e]
    rw [if_neg hv]; rfl
theorem Asc.sto {s : MkS} (h : Asc s) {i v : Int} (hi : s.wd < i) (hl : i.toNat < s.W.length) (hv : v ≠ 0) : Asc (sto s i v) := by
  have h0 := h.w0
  refine ⟨by simp [Proofs.Ytfdkaakllceebaa.sto]; omega, by simpa [Proofs.Ytfdkaakllceebaa.sto] using hl, fun j hj => ?_, ?_⟩
  · simp only [Proofs.Ytfdkaakllceebaa.sto] at hj ⊢
    rw [set_getD, if_neg (by omega)]
    exact h.top j (by omega)
  · simp only [Proofs.Ytfdkaakllceebaa.sto]
    have e0 : (s.W.set i.toNat v).getD i.toNat 0 = v := by rw [set_getD, if_pos ⟨rfl, hl⟩]
    rw [refN, e0, if_neg hv, refN_congr (V := s.W) (fun j hj => by rw [set_getD, if_neg (by omega)])]
    have e : i.toNat = s.wd.toNat + 1 + (i.toNat - (s.wd.toNat + 1)) := by omega
    rw [e, refN_top (fun j hj => h.top j (by omega)), h.fin]
    simp only [Prod.mk.injEq, true_and, and_true]
    omega
theorem Asc.all {s : MkS} (h : Asc s) : refN s.W s.W.length = (s.st, s.wd, s.vl) := by
  have h1 := h.wl
  have e : s.W.length = s.wd.toNat + 1 + (s.W.length - (s.wd.toNat + 1)) := by omega
  rw [e, refN_top (fun j hj => h.top j (by omega)), h.fin]

theorem pack_pos {a0 a1 a2 a3 a4 a5 a6 a7 a8 : Int} (hr : rightB a0 a1 a2 a3 a4 a5 a6 a7 a8 = true) : 0 < packV a0 a1 a2 a3 a4 a5 a6 a7 a8 := by
  have := right_iff.1 hr
  unfold packV; omega
theorem mk0_asc {a0 a1 a2 a3 a4 a5 a6 a7 a8 : Int} (hr : rightB a0 a1 a2 a3 a4 a5 a6 a7 a8 = true) :
    Asc (mk0 (sizeV a0 a1 a2 a4 a5 a6 a7).toNat (packV a0 a1 a2 a3 a4 a5 a6 a7 a8) a5 a7) ∧ (mk0 (sizeV a0 a1 a2 a4 a5 a6 a7).toNat (packV a0 a1 a2 a3 a4 a5 a6 a7 a8) a5 a7).wd ≤ 4 := by
  have hr' := right_iff.1 hr
  have hn := size_bd hr
  have hp := pack_pos hr
  have h1 := Asc.first (sizeV a0 a1 a2 a4 a5 a6 a7).toNat (by omega) (v := magicV) (by decide)
  have h2 := h1.sto (i := 1) (v := packV a0 a1 a2 a3 a4 a5 a6 a7 a8) (by simp [sto]) (by simp [sto]; omega) (by omega)
  have h3 := h2.sto (i := 3) (v := 1) (by simp [sto]) (by simp [sto]; omega) (by omega)
  by_cases h5 : 0 < a5 <;> by_cases h7 : 0 < a7 <;> simp only [mk0, h5, h7, if_true, if_false]
  · exact ⟨h3.sto (by simp [sto]) (by simp [sto]; omega) (by omega), by simp [sto]⟩
  · exact ⟨h3, by simp [sto]⟩
  · exact ⟨h2.sto (by simp [sto]) (by simp [sto]; omega) (by omega), by simp [sto]⟩
  · exact ⟨h2, by simp [sto]⟩
theorem mkN_asc {a0 a1 a2 a3 a4 a5 a6 a7 a8 : Int} (hr : rightB a0 a1 a2 a3 a4 a5 a6 a7 a8 = true) {s : MkS} (hs : Asc s) (hw : s.wd ≤ 4) (hl : s.W.length = (sizeV a0 a1 a2 a4 a5 a6 a7).toNat) : ∀ m : Nat, (m : Int) + 1 ≤ a5 + a7 →
    Asc (mkN a0 a1 a2 a4 a5 a6 a7 s m) ∧ (mkN a0 a1 a2 a4 a5 a6 a7 s m).wd < blockV a0 a1 a2 a4 a5 a6 a7 ((m : Int) + 1)
  | 0, h => by
    have hr' := right_iff.1 hr
    have := block_low hr (b := ((0 : Nat) : Int) + 1) (by omega) h
    exact ⟨hs, by rw [mkN]; omega⟩
  | m + 1, h => by
    have hr' := right_iff.1 hr
    obtain ⟨i1, i2⟩ := mkN_asc hr hs hw hl m (by omega)
    have hb := block_range hr (b := (m : Int) + 1) (by omega) (by omega)
    have hn := block_next hr (b := (m : Int) + 1) (by omega) (by omega)
    have hlen := mkN_len a0 a1 a2 a4 a5 a6 a7 s m
    have hgap : 0 ≤ (if (m : Int) + 1 ≤ a5 then a4 else a6) := by split <;> omega
    have ec : (((m + 1 : Nat) : Int) + 1) = (m : Int) + 1 + 1 := by omega
    rw [mkN, ec]
    split
    · refine ⟨i1.sto i2 (by omega) (by omega), ?_⟩
      simp only [sto]; omega
    · exact ⟨i1, by omega⟩
theorem mkA_asc {a0 a1 a2 a3 a4 a5 a6 a7 a8 : Int} (hr : rightB a0 a1 a2 a3 a4 a5 a6 a7 a8 = true) : Asc (mkA a0 a1 a2 a3 a4 a5 a6 a7 a8) := by
  have hr' := right_iff.1 hr
  obtain ⟨h1, h2⟩ := mk0_asc hr
  unfold mkA
  rcases Int.lt_or_le 0 (a5 + a7) with h | h
  · exact (mkN_asc hr h1 h2 (mk0_len _ _ _ _) _ (by omega)).1
  · have : (a5 + a7 - 1).toNat = 0 := by omega
    rw [this]; exact h1
theorem mkA_len {a0 a1 a2 a3 a4 a5 a6 a7 a8 : Int} : (mkA a0 a1 a2 a3 a4 a5 a6 a7 a8).W.length = (sizeV a0 a1 a2 a4 a5 a6 a7).toNat := by
  unfold mkA; rw [mkN_len, mk0_len]
theorem sto_low (s : MkS) {i v : Int} {j : Nat} (h : i.toNat ≠ j) : (sto s i v).W.getD j 0 = s.W.getD j 0 := by
  simp only [sto]; rw [set_getD, if_neg (by omega)]
/-- Where nothing is laid, there is 0. -/
theorem mkA_zero {a0 a1 a2 a3 a4 a5 a6 a7 a8 : Int} (hr : rightB a0 a1 a2 a3 a4 a5 a6 a7 a8 = true) {j : Nat} (hj : j = 2 ∨ 5 ≤ j ∧ (j : Int) < 5 + a2 + a0 + a0 * (1 + 2 * a1)) :
    (mkA a0 a1 a2 a3 a4 a5 a6 a7 a8).W.getD j 0 = 0 := by
  have hr' := right_iff.1 hr
  have h0 : (mk0 (sizeV a0 a1 a2 a4 a5 a6 a7).toNat (packV a0 a1 a2 a3 a4 a5 a6 a7 a8) a5 a7).W.getD j 0 = 0 := by
    have hz : ∀ N : Nat, (List.replicate N (0 : Int)).getD j 0 = 0 := by
      intro N; simp [List.getD_eq_getElem?_getD, List.getElem?_replicate]; split <;> simp
    by_cases h5 : 0 < a5 <;> by_cases h7 : 0 < a7 <;> simp only [mk0, h5, h7, if_true, if_false]
    · rw [sto_low _ (by omega), sto_low _ (by omega), sto_low _ (by omega), sto_low _ (by omega)]; exact hz _
    · rw [sto_low _ (by omega), sto_low _ (by omega), sto_low _ (by omega)]; exact hz _
    · rw [sto_low _ (by omega), sto_low _ (by omega), sto_low _ (by omega)]; exact hz _
    · rw [sto_low _ (by omega), sto_low _ (by omega)]; exact hz _
  have hN : ∀ m : Nat, (m : Int) ≤ a5 + a7 → (mkN a0 a1 a2 a4 a5 a6 a7 (mk0 (sizeV a0 a1 a2 a4 a5 a6 a7).toNat (packV a0 a1 a2 a3 a4 a5 a6 a7 a8) a5 a7) m).W.getD j 0 = 0 := by
    intro m
    induction m with
    | zero => intro _; exact h0
    | succ m ih =>
      intro hm
      have hb := block_low hr (b := (m : Int) + 1) (by omega) (by omega)
      rw [mkN]
      split
      · rw [sto_low _ (by omega)]; exact ih (by omega)
      · exact ih (by omega)
  exact hN _ (by omega)
theorem mkA_st {a0 a1 a2 a3 a4 a5 a6 a7 a8 : Int} (hr : rightB a0 a1 a2 a3 a4 a5 a6 a7 a8 = true) : 2 ≤ (mkA a0 a1 a2 a3 a4 a5 a6 a7 a8).st ∧ (mkA a0 a1 a2 a3 a4 a5 a6 a7 a8).st ≤ 30 := by
  have hr' := right_iff.1 hr
  have h1 := mk0_st (sizeV a0 a1 a2 a4 a5 a6 a7).toNat (packV a0 a1 a2 a3 a4 a5 a6 a7 a8) a5 a7
  have h2 := mkN_st a0 a1 a2 a4 a5 a6 a7 (mk0 (sizeV a0 a1 a2 a4 a5 a6 a7).toNat (packV a0 a1 a2 a3 a4 a5 a6 a7 a8) a5 a7) (a5 + a7 - 1).toNat
  unfold mkA; omega
end Go.Proofs.Ytfdkaakllceebaa
