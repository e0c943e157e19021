/- All steps of the document's runs, told by the law's function. -/
import Derived.Test.YtkkddjchkkaagaaGreatDoorDocSteps
namespace Go.Proofs.YtkkddjchkkaagaaGreatDoor
open Go Go.Hx
set_option maxRecDepth 8000
/-- What is so of a run besides, for the document. -/
structure DPre (T start : Nat) (s : TS) : Prop where
  h2 : s.ph ≤ 2 → s.hd = false
  p2 : s.rm = false → s.ph ≤ 2 → s.pl = -1
  d0 : -1 ≤ dpl T start s
  d1 : dpl T start s ≤ 1000
section
variable {T : Nat} {R : Int} {start : Nat} {s : TS} {W : List Int} {st kd wd vl : Int} {ch : Bool}
theorem dstep_fn (P : TPre T R start s W st) (D : DPre T start s) : ∃ dp', Dtp T R start s W st kd wd vl ch (tStep T R start s W st) (dpl T start s) dp' ∧ ((tStep T R start s W st).s.ph ≠ 0 → dp' = dpl T start (tStep T R start s W st).s) := by
  obtain ⟨rm, lg, key, ph, seq, i, fd, hd, tm, er, pl, sn, fl, bk, ep, tp, tl⟩ := s
  have hp : ph = 1 ∨ ph = 2 ∨ ph = 3 ∨ ph = 4 ∨ ph = 5 ∨ ph = 6 ∨ ph = 7 := by have h1 : 1 ≤ ph := P.p1; have h2 : ph ≤ 7 := P.p7; omega
  have e0 : ph ≤ 6 → er = 0 := P.e0
  obtain ⟨h2, p2, d0, d1⟩ := D
  dsimp only at h2 p2
  rcases hp with rfl | rfl | rfl | rfl | rfl | rfl | rfl
  · obtain rfl := e0 (by omega)
    unfold tStep tFail
    dsimp only
    rw [if_pos rfl]
    by_cases g : W.getD 2 0 % 2 = 1
    · rw [if_pos g]
      by_cases g2 : fd + 1 = R
      · rw [if_pos g2]; cases rm <;> first | exact ⟨_, d1cl P g g2, fun _ => rfl⟩ | exact ⟨_, d1rl P g g2, fun _ => rfl⟩
      · rw [if_neg g2]; cases rm <;> first | exact ⟨_, d1cf P g g2, fun _ => rfl⟩ | exact ⟨_, d1rf P g g2, fun _ => rfl⟩
    · rw [if_neg g]; cases rm <;> first | exact ⟨_, d1ce P g, fun _ => rfl⟩ | exact ⟨_, d1re P g, fun _ => rfl⟩
  · obtain rfl := e0 (by omega)
    obtain rfl : hd = false := h2 (by omega)
    unfold tStep tFail
    dsimp only
    rw [if_neg (by decide), if_pos rfl]
    by_cases g : W.getD 2 0 = seq
    · rw [if_pos g]
      cases rm
      · obtain rfl : pl = -1 := p2 rfl (by omega)
        exact ⟨_, d2ch P g, fun _ => rfl⟩
      · exact ⟨_, d2rh P g, fun _ => rfl⟩
    · rw [if_neg g]
      by_cases g2 : fd + 1 = R
      · rw [if_pos g2]
        cases rm
        · obtain rfl : pl = -1 := p2 rfl (by omega)
          exact ⟨_, d2cl P g g2, fun _ => rfl⟩
        · exact ⟨_, d2rl P g g2, fun _ => rfl⟩
      · rw [if_neg g2]
        cases rm
        · obtain rfl : pl = -1 := p2 rfl (by omega)
          exact ⟨_, d2cf P g g2, fun _ => rfl⟩
        · exact ⟨_, d2rf P g g2, fun _ => rfl⟩
  · obtain rfl := e0 (by omega)
    unfold tStep
    dsimp only
    rw [if_neg (by decide), if_neg (by decide), if_pos rfl]
    rcases hl : (decide (W.getD (eP (tPl T start i)) 0 = 0) || decide (i + 1 = T)) with _ | _ <;> rcases hf : (isK (W.getD (eP (tPl T start i)) 0) && decide (W.getD (eP (tPl T start i)) 0 / 4 = key)) with _ | _ <;> rcases hk : isK (W.getD (eP (tPl T start i)) 0) with _ | _
    · skip
      have hzt : ¬ W.getD (eP (tPl T start i)) 0 = 0 ∧ ¬ i + 1 = T := by simpa [-List.getD_eq_getElem?_getD] using hl
      obtain ⟨hz, ht⟩ := hzt
      cases rm
      · by_cases hn : pl = -1
        · subst hn; exact ⟨_, d3cgn1 P hk hz ht, fun _ => rfl⟩
        · simp only [hn, and_false, if_false, Bool.false_eq_true]; exact ⟨_, d3cgn2 P hk hz ht hn, fun _ => rfl⟩
      · exact ⟨_, d3rnfn P hk hz ht, fun _ => rfl⟩
    · have hfk : ¬ W.getD (eP (tPl T start i)) 0 / 4 = key := by simpa [-List.getD_eq_getElem?_getD, hk] using hf
      have hz : ¬ W.getD (eP (tPl T start i)) 0 = 0 := (isK_ne hk).1
      have ht : ¬ i + 1 = T := by simpa [-List.getD_eq_getElem?_getD, hz] using hl
      cases rm
      · exact ⟨_, d3ckn P hk hfk ht, fun _ => rfl⟩
      · exact ⟨_, d3rntn P hk hfk ht, fun _ => rfl⟩
    · rw [hk] at hf; cases hf
    · have hfk : W.getD (eP (tPl T start i)) 0 / 4 = key := by simpa [-List.getD_eq_getElem?_getD, hk] using hf
      have hz : ¬ W.getD (eP (tPl T start i)) 0 = 0 := (isK_ne hk).1
      have ht : ¬ i + 1 = T := by simpa [-List.getD_eq_getElem?_getD, hz] using hl
      cases rm
      · exact ⟨_, d3cfn P hk hfk ht, fun _ => rfl⟩
      · exact ⟨_, d3rfn P hk hfk ht, fun _ => rfl⟩
    · skip
      by_cases hz : W.getD (eP (tPl T start i)) 0 = 0
      · cases rm
        · by_cases hn : pl = -1
          · subst hn; exact ⟨_, d3cgz1 P hk hz, fun _ => rfl⟩
          · simp only [hn, and_false, if_false, if_true, Bool.false_eq_true]; exact ⟨_, d3cgz2 P hk hz hn, fun _ => rfl⟩
        · exact ⟨_, d3rnfz P hk hz, fun _ => rfl⟩
      · have ht : i + 1 = T := by simpa [-List.getD_eq_getElem?_getD, hz] using hl
        cases rm
        · by_cases hn : pl = -1
          · subst hn; exact ⟨_, d3cgt1 P hk hz ht, fun _ => rfl⟩
          · simp only [hn, and_false, if_false, if_true, Bool.false_eq_true]; exact ⟨_, d3cgt2 P hk hz ht hn, fun _ => rfl⟩
        · exact ⟨_, d3rnft P hk hz ht, fun _ => rfl⟩
    · have hfk : ¬ W.getD (eP (tPl T start i)) 0 / 4 = key := by simpa [-List.getD_eq_getElem?_getD, hk] using hf
      have hz : ¬ W.getD (eP (tPl T start i)) 0 = 0 := (isK_ne hk).1
      have ht : i + 1 = T := by simpa [-List.getD_eq_getElem?_getD, hz] using hl
      cases rm
      · by_cases hn : pl = -1
        · subst hn; exact ⟨_, d3ckt1 P hk hfk ht, fun _ => rfl⟩
        · simp only [hn, if_false, and_false, if_true, Bool.false_eq_true]; exact ⟨_, d3ckt2 P hk hfk ht hn, fun _ => rfl⟩
      · exact ⟨_, d3rntt P hk hfk ht, fun _ => rfl⟩
    · rw [hk] at hf; cases hf
    · have hfk : W.getD (eP (tPl T start i)) 0 / 4 = key := by simpa [-List.getD_eq_getElem?_getD, hk] using hf
      have hz : ¬ W.getD (eP (tPl T start i)) 0 = 0 := (isK_ne hk).1
      have ht : i + 1 = T := by simpa [-List.getD_eq_getElem?_getD, hz] using hl
      cases rm
      · exact ⟨_, d3cft P hk hfk ht, fun _ => rfl⟩
      · exact ⟨_, d3rft P hk hfk ht, fun _ => rfl⟩
  · obtain rfl := e0 (by omega)
    unfold tStep tMore
    dsimp only
    rw [if_neg (by decide), if_neg (by decide), if_neg (by decide), if_pos rfl]
    cases rm
    · exact ⟨_, d4c P, fun _ => rfl⟩
    · rcases gb : buW (W.getD (cP T pl.toNat) 0) with _ | _
      · exact ⟨_, d4rn P gb, fun _ => rfl⟩
      · by_cases g2 : fl + 1 = R
        · simp only [Bool.true_and, if_true, if_pos g2]; exact ⟨_, d4rl P gb g2, fun _ => rfl⟩
        · simp only [Bool.true_and, if_true, if_neg g2]; exact ⟨_, d4rf P gb g2, fun _ => rfl⟩
  · obtain rfl := e0 (by omega)
    unfold tStep tMore
    dsimp only
    rw [if_neg (by decide), if_neg (by decide), if_neg (by decide), if_neg (by decide), if_pos rfl]
    cases rm
    · exact ⟨_, d5c P, fun _ => rfl⟩
    · by_cases gs : W.getD (cP T pl.toNat) 0 = sn
      · rw [if_pos rfl, if_pos gs]; exact ⟨_, d5rh P gs, fun _ => rfl⟩
      · rw [if_pos rfl, if_neg gs]
        by_cases g2 : fl + 1 = R
        · rw [if_pos g2]; exact ⟨_, d5rl P gs g2, fun _ => rfl⟩
        · rw [if_neg g2]; exact ⟨_, d5rf P gs g2, fun _ => rfl⟩
  · obtain rfl := e0 (by omega)
    unfold tStep
    dsimp only
    rw [if_neg (by decide), if_neg (by decide), if_neg (by decide), if_neg (by decide), if_neg (by decide), if_pos rfl]
    cases rm <;> first | exact ⟨_, d6c P, fun _ => rfl⟩ | exact ⟨_, d6r P, fun _ => rfl⟩
  · unfold tStep
    dsimp only
    rw [if_neg (by decide), if_neg (by decide), if_neg (by decide), if_neg (by decide), if_neg (by decide), if_neg (by decide), if_pos rfl]
    cases rm <;> first | exact ⟨_, d7c P d0 d1, fun q => absurd rfl q⟩ | exact ⟨_, d7r P d0 d1, fun q => absurd rfl q⟩
end
end Go.Proofs.YtkkddjchkkaagaaGreatDoor
