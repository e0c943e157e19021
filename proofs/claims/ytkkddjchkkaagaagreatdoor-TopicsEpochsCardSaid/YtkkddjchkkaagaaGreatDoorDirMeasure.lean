/- The directory: how long a run may take alone. -/
import Derived.Test.YtkkddjchkkaagaaGreatDoorDirKeep
namespace Go.Proofs.YtkkddjchkkaagaaGreatDoor
open Go Go.Hx
set_option maxRecDepth 8000
/-- Steps that are left, if nobody else does anything. -/
def m4 (R : Int) (rm bu : Bool) (fl : Int) : Int := if rm = true ∧ bu = true then R - fl + 1 else 4
def m3 (T : Nat) (R fl : Int) (i : Nat) : Int := (T : Int) - i + (if 4 ≤ R - fl + 1 then R - fl + 1 else 4)
def m1 (T : Nat) (R fl : Int) (i : Nat) (fd w2 : Int) : Int := if w2 % 2 = 1 then R - fd else 2 + m3 T R fl i
def mT (T : Nat) (R : Int) (s : TS) (W : List Int) : Int :=
  if s.ph = 1 then m1 T R s.fl s.i s.fd (W.getD 2 0)
  else if s.ph = 2 then (if W.getD 2 0 = s.seq then 1 + m3 T R s.fl s.i else if s.fd + 1 = R then 1 else 1 + m1 T R s.fl s.i (s.fd + 1) (W.getD 2 0))
  else if s.ph = 3 then m3 T R s.fl s.i
  else if s.ph = 4 then m4 R s.rm (buW (W.getD (cP T s.pl.toNat) 0)) s.fl
  else if s.ph = 5 then (if s.rm = true then (if W.getD (cP T s.pl.toNat) 0 = s.sn then 3 else if s.fl + 1 = R then 2 else 1 + m4 R true (buW (W.getD (cP T s.pl.toNat) 0)) (s.fl + 1)) else 3)
  else if s.ph = 6 then 2 else 1
/-- Counts are below the number of attempts. -/
structure TB (T : Nat) (R : Int) (s : TS) : Prop where
  r1 : 1 ≤ R
  f0 : 0 ≤ s.fd
  f1 : s.fd < R
  g0 : 0 ≤ s.fl
  g1 : s.ph ≤ 6 → s.fl < R
  g2 : s.fl ≤ R
  it : s.ph ≤ 3 → s.i < T
section
variable {T : Nat} {R st : Int} {start : Nat} {s : TS} {W : List Int}
theorem mT_pos (b : TB T R s) : 1 ≤ mT T R s W := by
  obtain ⟨rm, lg, key, ph, seq, i, fd, hd, tm, er, pl, sn, fl, bk, ep, tp, tl⟩ := s
  obtain ⟨r1, f0, f1, g0, g1, g2, it⟩ := b
  dsimp only at f0 f1 g0 g1 g2 it
  unfold mT m1 m3 m4
  dsimp only
  repeat' split
  all_goals (first | omega | (have := it (by omega); omega) | (have := g1 (by omega); omega))
theorem mT_max (b : TB T R s) : mT T R s W ≤ (T : Int) + 4 * R + 6 := by
  obtain ⟨rm, lg, key, ph, seq, i, fd, hd, tm, er, pl, sn, fl, bk, ep, tp, tl⟩ := s
  obtain ⟨r1, f0, f1, g0, g1, g2, it⟩ := b
  dsimp only at f0 f1 g0 g1 g2 it
  unfold mT m1 m3 m4
  dsimp only
  repeat' split
  all_goals (first | omega | (have := it (by omega); omega) | (have := g1 (by omega); omega))
theorem mT_dec (b : TB T R s) (h1 : 1 ≤ s.ph) (h7 : s.ph ≤ 7) (hn : (tStep T R start s W st).s.ph ≠ 0) : mT T R (tStep T R start s W st).s (tStep T R start s W st).W + 1 ≤ mT T R s W ∧ TB T R (tStep T R start s W st).s := by
  obtain ⟨rm, lg, key, ph, seq, i, fd, hd, tm, er, pl, sn, fl, bk, ep, tp, tl⟩ := s
  obtain ⟨r1, f0, f1, g0, g1, g2, it⟩ := b
  dsimp only at f0 f1 g0 g1 g2 it h1 h7
  have hp : ph = 1 ∨ ph = 2 ∨ ph = 3 ∨ ph = 4 ∨ ph = 5 ∨ ph = 6 ∨ ph = 7 := by omega
  rcases hp with rfl | rfl | rfl | rfl | rfl | rfl | rfl
  · have it := it (by omega)
    have g1 := g1 (by omega)
    unfold tStep at hn ⊢
    dsimp only at hn ⊢
    rw [if_pos rfl] at hn ⊢
    dsimp only at hn ⊢
    by_cases g : W.getD 2 0 % 2 = 1
    · rw [if_pos g] at hn ⊢
      unfold tFail at hn ⊢
      dsimp only at hn ⊢
      by_cases e : fd + 1 = R
      · rw [if_pos e] at hn; exact absurd rfl hn
      · rw [if_neg e]
        refine ⟨?_, ⟨r1, by dsimp only; omega, by dsimp only; omega, g0, fun _ => g1, g2, fun _ => it⟩⟩
        simp only [mT, m1, if_true, if_pos g]; omega
    · rw [if_neg g]
      refine ⟨?_, ⟨r1, f0, f1, g0, fun _ => g1, g2, fun _ => it⟩⟩
      simp only [mT, m1, if_true, if_neg g]
      simp
      omega
  · have it := it (by omega)
    have g1 := g1 (by omega)
    unfold tStep at hn ⊢
    dsimp only at hn ⊢
    rw [if_neg (by decide), if_pos rfl] at hn ⊢
    by_cases g : W.getD 2 0 = seq
    · rw [if_pos g]
      refine ⟨?_, ⟨r1, f0, f1, g0, fun _ => g1, g2, fun _ => it⟩⟩
      simp [-List.getD_eq_getElem?_getD, mT, g]
      omega
    · rw [if_neg g] at hn ⊢
      unfold tFail at hn ⊢
      dsimp only at hn ⊢
      by_cases e : fd + 1 = R
      · rw [if_pos e] at hn; exact absurd rfl hn
      · rw [if_neg e]
        refine ⟨?_, ⟨r1, by dsimp only; omega, by dsimp only; omega, g0, fun _ => g1, g2, fun _ => it⟩⟩
        simp [-List.getD_eq_getElem?_getD, mT, g, e]
        omega
  · have it := it (by omega)
    have g1 := g1 (by omega)
    have fin : ∀ s' : TS, s'.ph = 7 → s'.fd = fd → s'.fl = fl → mT T R s' W + 1 ≤ mT T R ⟨rm, lg, key, 3, seq, i, fd, hd, tm, er, pl, sn, fl, bk, ep, tp, tl⟩ W ∧ TB T R s' := fun s' e0 e1 e2 => by
      refine ⟨?_, ⟨r1, by omega, by omega, by omega, fun q => by omega, by omega, fun q => by omega⟩⟩
      simp [mT, e0, m3]
      split <;> omega
    have four : ∀ s' : TS, s'.ph = 4 → s'.fd = fd → s'.fl = fl → mT T R s' W + 1 ≤ mT T R ⟨rm, lg, key, 3, seq, i, fd, hd, tm, er, pl, sn, fl, bk, ep, tp, tl⟩ W ∧ TB T R s' := fun s' e0 e1 e2 => by
      refine ⟨?_, ⟨r1, by omega, by omega, by omega, fun q => by omega, by omega, fun q => by omega⟩⟩
      simp [-List.getD_eq_getElem?_getD, mT, e0, m3, m4, e2]
      repeat' split
      all_goals omega
    have more : ∀ s' : TS, s'.ph = 3 → s'.fd = fd → s'.fl = fl → s'.i = i + 1 → i + 1 < T → mT T R s' W + 1 ≤ mT T R ⟨rm, lg, key, 3, seq, i, fd, hd, tm, er, pl, sn, fl, bk, ep, tp, tl⟩ W ∧ TB T R s' := fun s' e0 e1 e2 e3 e4 => by
      refine ⟨?_, ⟨r1, by omega, by omega, by omega, fun q => by omega, by omega, fun q => by omega⟩⟩
      simp [-List.getD_eq_getElem?_getD, mT, e0, m3, e2, e3]
      omega
    unfold tStep
    dsimp only
    rw [if_neg (by decide), if_neg (by decide), if_pos rfl]
    dsimp only
    generalize (isK (W.getD (eP (tPl T start i)) 0) && decide (W.getD (eP (tPl T start i)) 0 / 4 = key)) = F
    generalize (if isK (W.getD (eP (tPl T start i)) 0) = false ∧ pl = -1 then ((tPl T start i : Nat) : Int) else pl) = pv
    rcases hl : (decide (W.getD (eP (tPl T start i)) 0 = 0) || decide (i + 1 = T)) with _ | _
    · simp only [Bool.or_eq_false_iff, decide_eq_false_iff_not] at hl
      rcases rm with _ | _ <;> rcases F with _ | _
      · exact more _ rfl rfl rfl rfl (by omega)
      · exact fin _ rfl rfl rfl
      · exact more _ rfl rfl rfl rfl (by omega)
      · exact four _ rfl rfl rfl
    · rcases rm with _ | _ <;> rcases F with _ | _
      · simp only [Bool.false_eq_true, if_false, if_true]
        by_cases hne : pv = -1
        · rw [if_pos hne]; exact fin _ rfl rfl rfl
        · rw [if_neg hne]; exact four _ rfl rfl rfl
      · exact fin _ rfl rfl rfl
      · exact fin _ rfl rfl rfl
      · exact four _ rfl rfl rfl
  · have g1 := g1 (by omega)
    unfold tStep
    dsimp only
    rw [if_neg (by decide), if_neg (by decide), if_neg (by decide), if_pos rfl]
    dsimp only
    by_cases g : (rm && buW (W.getD (cP T pl.toNat) 0)) = true
    · rw [if_pos g]
      simp only [Bool.and_eq_true] at g
      unfold tMore
      dsimp only
      by_cases e : fl + 1 = R
      · rw [if_pos e]
        refine ⟨?_, ⟨r1, f0, f1, by dsimp only; omega, fun q => by dsimp only at q; omega, by dsimp only; omega, fun q => by dsimp only at q; omega⟩⟩
        simp [-List.getD_eq_getElem?_getD, mT, m4, g]
        omega
      · rw [if_neg e]
        refine ⟨?_, ⟨r1, f0, f1, by dsimp only; omega, fun q => by dsimp only; omega, by dsimp only; omega, fun q => by dsimp only at q; omega⟩⟩
        simp [-List.getD_eq_getElem?_getD, mT, m4, g]
        omega
    · rw [if_neg g]
      have g' : ¬ (rm = true ∧ buW (W.getD (cP T pl.toNat) 0) = true) := fun q => g (by rw [q.1, q.2]; rfl)
      refine ⟨?_, ⟨r1, f0, f1, g0, fun _ => g1, g2, fun q => by dsimp only at q; omega⟩⟩
      simp only [mT, m4, if_neg g']
      simp [-List.getD_eq_getElem?_getD]
      
  · have g1 := g1 (by omega)
    unfold tStep
    dsimp only
    rw [if_neg (by decide), if_neg (by decide), if_neg (by decide), if_neg (by decide), if_pos rfl]
    rcases rm with _ | _
    · rw [if_neg (by decide)]
      refine ⟨?_, ⟨r1, f0, f1, g0, fun _ => g1, g2, fun q => by dsimp only at q; omega⟩⟩
      simp [mT]
    · rw [if_pos rfl]
      by_cases g : W.getD (cP T pl.toNat) 0 = sn
      · rw [if_pos g]
        refine ⟨?_, ⟨r1, f0, f1, g0, fun _ => g1, g2, fun q => by dsimp only at q; omega⟩⟩
        simp [-List.getD_eq_getElem?_getD, mT, g]
      · rw [if_neg g]
        unfold tMore
        dsimp only
        by_cases e : fl + 1 = R
        · rw [if_pos e]
          refine ⟨?_, ⟨r1, f0, f1, by dsimp only; omega, fun q => by dsimp only at q; omega, by dsimp only; omega, fun q => by dsimp only at q; omega⟩⟩
          simp [-List.getD_eq_getElem?_getD, mT, g, e]
        · rw [if_neg e]
          refine ⟨?_, ⟨r1, f0, f1, by dsimp only; omega, fun q => by dsimp only; omega, by dsimp only; omega, fun q => by dsimp only at q; omega⟩⟩
          simp [-List.getD_eq_getElem?_getD, mT, g, e]
          omega
  · have g1 := g1 (by omega)
    unfold tStep
    dsimp only
    rw [if_neg (by decide), if_neg (by decide), if_neg (by decide), if_neg (by decide), if_neg (by decide), if_pos rfl]
    refine ⟨?_, ⟨r1, f0, f1, g0, fun q => by dsimp only at q; omega, g2, fun q => by dsimp only at q; omega⟩⟩
    simp [mT]
  · exfalso
    unfold tStep at hn
    dsimp only at hn
    rw [if_neg (by decide), if_neg (by decide), if_neg (by decide), if_neg (by decide), if_neg (by decide), if_neg (by decide), if_pos rfl] at hn
    exact hn rfl
end
end Go.Proofs.YtkkddjchkkaagaaGreatDoor
