/- FindFails: the law: an attempt fails only if the number is odd, or was changed. -/
import Derived.Test.YtkkddjchkkaagaaGreatDoorFailsRows
namespace Go.Proofs.YtkkddjchkkaagaaGreatDoor
open Go Go.Hx
set_option maxRecDepth 8000
/-- n: how often somebody was in the way. -/
def FAi (w2 n : Int) (s : FS) : Prop := s.fd ≤ n ∧ (s.ph ≠ 1 → s.seq ≠ w2 → s.fd + 1 ≤ n) ∧ (s.er = 0 ∨ s.er = 12)
def LAi (T : Nat) (w2 n : Int) (s : LS) : Prop := s.fd ≤ n ∧ (s.ph ≠ 1 → s.seq ≠ w2 → s.fd + 1 ≤ n) ∧ s.er = 0 ∧ s.i ≤ T ∧ ∀ l, s.told = some l → 0 < l.length
section
variable {T start : Nat} {R st n w2 : Int} {W : List Int}
theorem fail_fa {s : FS} (h : s.fd + 1 ≤ n) : ((fFail R s).ph ≠ 0 → FAi w2 n (fFail R s)) ∧ ((fFail R s).ph = 0 → ((fFail R s).er = 17 → R ≤ n) ∧ ((fFail R s).er = 0 ∨ (fFail R s).er = 12 ∨ (fFail R s).er = 17)) ∧ (fFail R s).key = s.key := by
  unfold fFail
  split
  · rename_i e
    exact ⟨fun q => absurd rfl q, fun _ => ⟨fun _ => by omega, .inr (.inr rfl)⟩, rfl⟩
  · exact ⟨fun _ => ⟨h, fun q => absurd rfl q, .inl rfl⟩, fun q => absurd q (by dsimp only; omega), rfl⟩
theorem fa_step {s : FS} (C : FC T R s) (A : FAi (W.getD 2 0) n s) (ho : W.getD 2 0 % 2 = 1 → s.fd + 1 ≤ n) {r : FR} (hr : fStep T R start s W st = r) :
    (r.s.ph ≠ 0 → FAi (W.getD 2 0) n r.s) ∧ (r.s.ph = 0 → (r.s.er = 17 → R ≤ n) ∧ (r.s.er = 0 ∨ r.s.er = 12 ∨ r.s.er = 17)) ∧ r.s.key = s.key := by
  subst hr
  obtain ⟨a1, a2, a3⟩ := A
  have p1 := C.p1
  have p4 := C.p4
  unfold fStep
  by_cases e1 : s.ph = 1
  · rw [if_pos e1]
    dsimp only
    by_cases g : W.getD 2 0 % 2 = 1
    · rw [if_pos g]; exact fail_fa (ho g)
    · rw [if_neg g]; exact ⟨fun _ => ⟨a1, fun _ q => absurd rfl q, .inl rfl⟩, fun q => absurd q (by dsimp only; omega), rfl⟩
  · rw [if_neg e1]
    by_cases e2 : s.ph = 2
    · rw [if_pos e2]
      dsimp only
      split
      · exact ⟨fun _ => ⟨a1, fun _ q => a2 (by omega) q, a3⟩, fun q => absurd q (by dsimp only; omega), rfl⟩
      · split
        · exact ⟨fun _ => ⟨a1, fun _ q => a2 (by omega) q, .inr rfl⟩, fun q => absurd q (by dsimp only; omega), rfl⟩
        · exact ⟨fun _ => ⟨a1, fun _ q => a2 (by omega) q, a3⟩, fun q => absurd q (by dsimp only; omega), rfl⟩
    · rw [if_neg e2]
      by_cases e3 : s.ph = 3
      · rw [if_pos e3]
        exact ⟨fun _ => ⟨a1, fun _ q => a2 (by omega) q, a3⟩, fun q => absurd q (by dsimp only; omega), rfl⟩
      · rw [if_neg e3]
        dsimp only
        by_cases g : W.getD 2 0 = s.seq
        · rw [if_pos g]
          refine ⟨fun q => absurd rfl q, fun _ => ⟨fun q => ?_, ?_⟩, rfl⟩
          · dsimp only at q; omega
          · dsimp only; omega
        · rw [if_neg g]
          exact fail_fa (a2 (by omega) (fun q => g q.symm))
theorem fail_la {s : LS} (h : s.fd + 1 ≤ n) (hi : s.i ≤ T) : ((lFail R s).ph ≠ 0 → LAi T w2 n (lFail R s)) ∧ ((lFail R s).ph = 0 → ((lFail R s).er = 17 → R ≤ n) ∧ ((lFail R s).er = 0 ∨ (lFail R s).er = 17)) ∧ (lFail R s).i ≤ T ∧ (∀ l, (lFail R s).told = some l → 0 < l.length) := by
  unfold lFail
  split
  · rename_i e
    exact ⟨fun q => absurd rfl q, fun _ => ⟨fun _ => by omega, .inr rfl⟩, hi, fun l q => by cases q⟩
  · exact ⟨fun _ => ⟨h, fun q => absurd rfl q, rfl, hi, fun l q => by cases q⟩, fun q => absurd q (by dsimp only; omega), hi, fun l q => by cases q⟩
theorem la_step {s : LS} (C : LC T R s) (A : LAi T (W.getD 2 0) n s) (ho : W.getD 2 0 % 2 = 1 → s.fd + 1 ≤ n) {r : LR} (hr : lStep T R s W st = r) :
    (r.s.ph ≠ 0 → LAi T (W.getD 2 0) n r.s) ∧ (r.s.ph = 0 → (r.s.er = 17 → R ≤ n) ∧ (r.s.er = 0 ∨ r.s.er = 17)) ∧ r.s.i ≤ T ∧ (∀ l, r.s.told = some l → 0 < l.length) := by
  subst hr
  obtain ⟨a1, a2, a3, a4, a5⟩ := A
  have p1 := C.p1
  have it := C.it
  unfold lStep
  by_cases e1 : s.ph = 1
  · rw [if_pos e1]
    dsimp only
    by_cases g : W.getD 2 0 % 2 = 1
    · rw [if_pos g]; exact fail_la (ho g) (Nat.zero_le _)
    · rw [if_neg g]; exact ⟨fun _ => ⟨a1, fun _ q => absurd rfl q, rfl, Nat.zero_le _, fun l q => by cases q⟩, fun q => absurd q (by dsimp only; omega), Nat.zero_le _, fun l q => by cases q⟩
  · rw [if_neg e1]
    by_cases e2 : s.ph = 2
    · rw [if_pos e2]
      have i1 := it e2
      dsimp only
      have t5 : ∀ l, (if isK (W.getD (fP s.i) 0) = true then some (lst s.told ++ [W.getD (fP s.i) 0 / 4]) else s.told) = some l → 0 < l.length := fun l q => by
        split at q
        · cases q; simp
        · exact a5 l q
      refine ⟨fun _ => ⟨a1, fun _ q => a2 (by omega) q, a3, by dsimp only; omega, t5⟩, fun q => ?_, by omega, t5⟩
      split at q <;> omega
    · rw [if_neg e2]
      dsimp only
      by_cases g : W.getD 2 0 = s.seq
      · rw [if_pos g]
        refine ⟨fun q => absurd rfl q, fun _ => ⟨fun q => ?_, .inl a3⟩, a4, a5⟩
        dsimp only at q; omega
      · rw [if_neg g]
        exact fail_la (a2 (by omega) (fun q => g q.symm)) a4
end
end Go.Proofs.YtkkddjchkkaagaaGreatDoor
