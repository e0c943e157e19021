/- Find: the runs, as functions. -/
import Derived.Test.YtkkddjchkkaagaaGreatDoorFindStart
import Derived.Test.YtkkddjchkkaagaaGreatDoorEntries
import Derived.Test.YtkkddjchkkaagaaGreatDoorControlTwo
import Derived.Test.YtkkddjchkkaagaaGreatDoorArenaSteps
namespace Go.Proofs.YtkkddjchkkaagaaGreatDoor
open Go Go.Hx
set_option maxRecDepth 8000
/-- An entry's place, and a control word's. -/
def fP (p : Nat) : Nat := 6 + p
def gP (T p : Nat) : Nat := 6 + T + 9 * p
abbrev erO (c : Int) : SV := .iface 35 (.int .i64 c)
def erV (e : Int) : SV := if e = 0 then .niliface else erO e
theorem ren_erV {e : Int} {σ : Nat → Nat} : (erV e).ren σ = erV e := by unfold erV; split <;> rfl
theorem sim_erV {e : Int} {σ : Nat → Nat} : sim (erV e) ((erV e).ren σ) := by rw [ren_erV]; exact sim_refl _
theorem okP_erV {e : Int} {A : Nat → Bool} : okP A (erV e) := by unfold erV; split <;> trivial
/-- A run that finds; ph: 0 done, 1 begin, 2 entries, 3 epoch, 4 end. -/
structure FS where
  (key : Int) (ph : Nat) (seq : Int) (i : Nat) (fd pl ep : Int) (lg : Bool) (er tm : Int)
structure FR where
  (s : FS) (wd vl : Int)
def fFail (R : Int) (s : FS) : FS := if s.fd + 1 = R then ⟨s.key, 0, s.seq, s.i, s.fd + 1, 0, 0, false, 17, s.tm⟩ else ⟨s.key, 1, s.seq, s.i, s.fd + 1, 0, 0, false, 0, s.tm⟩
def fPl (T start i : Nat) : Nat := (start + i) % T
def fStep (T : Nat) (R : Int) (start : Nat) (s : FS) (W : List Int) (st : Int) : FR :=
  if s.ph = 1 then ⟨if W.getD 2 0 % 2 = 1 then fFail R ⟨s.key, 2, W.getD 2 0, 0, s.fd, 0, 0, false, 0, s.tm⟩ else ⟨s.key, 2, W.getD 2 0, 0, s.fd, 0, 0, false, 0, s.tm⟩, 2, W.getD 2 0⟩
  else if s.ph = 2 then
    ⟨if isK (W.getD (fP (fPl T start s.i)) 0) = true ∧ W.getD (fP (fPl T start s.i)) 0 / 4 = s.key then ⟨s.key, 3, s.seq, s.i + 1, s.fd, (fPl T start s.i : Int), 0, lgW (W.getD (fP (fPl T start s.i)) 0), s.er, s.tm⟩
      else if W.getD (fP (fPl T start s.i)) 0 = 0 ∨ s.i + 1 = T then ⟨s.key, 4, s.seq, s.i + 1, s.fd, s.pl, s.ep, s.lg, 12, s.tm⟩ else ⟨s.key, 2, s.seq, s.i + 1, s.fd, s.pl, s.ep, s.lg, s.er, s.tm⟩,
      (fP (fPl T start s.i) : Int), W.getD (fP (fPl T start s.i)) 0⟩
  else if s.ph = 3 then ⟨⟨s.key, 4, s.seq, s.i, s.fd, s.pl, epW (W.getD (gP T s.pl.toNat) 0), s.lg, s.er, s.tm⟩, (gP T s.pl.toNat : Int), W.getD (gP T s.pl.toNat) 0⟩
  else ⟨if W.getD 2 0 = s.seq then ⟨s.key, 0, s.seq, s.i, s.fd, s.pl, s.ep, s.lg, s.er, st + 1⟩ else fFail R ⟨s.key, 0, s.seq, s.i, s.fd, s.pl, s.ep, s.lg, s.er, st + 1⟩, 2, W.getD 2 0⟩
/-- A run that lists; ph: 0 done, 1 begin, 2 entries, 4 end. -/
structure LS where
  (ph : Nat) (seq : Int) (i : Nat) (fd : Int) (told : Option (List Int)) (er tm : Int)
structure LR where
  (s : LS) (wd vl : Int)
def lFail (R : Int) (s : LS) : LS := if s.fd + 1 = R then ⟨0, s.seq, s.i, s.fd + 1, none, 17, s.tm⟩ else ⟨1, s.seq, s.i, s.fd + 1, none, 0, s.tm⟩
def lStep (T : Nat) (R : Int) (s : LS) (W : List Int) (st : Int) : LR :=
  if s.ph = 1 then ⟨if W.getD 2 0 % 2 = 1 then lFail R ⟨2, W.getD 2 0, 0, s.fd, none, 0, s.tm⟩ else ⟨2, W.getD 2 0, 0, s.fd, none, 0, s.tm⟩, 2, W.getD 2 0⟩
  else if s.ph = 2 then
    ⟨⟨if s.i + 1 = T then 4 else 2, s.seq, s.i + 1, s.fd, if isK (W.getD (fP s.i) 0) = true then some (lst s.told ++ [W.getD (fP s.i) 0 / 4]) else s.told, s.er, s.tm⟩, (fP s.i : Int), W.getD (fP s.i) 0⟩
  else ⟨if W.getD 2 0 = s.seq then ⟨0, s.seq, s.i, s.fd, s.told, s.er, st + 1⟩ else lFail R ⟨0, s.seq, s.i, s.fd, s.told, s.er, st + 1⟩, 2, W.getD 2 0⟩
/-- Of the config, and the words. -/
structure FB (T : Nat) (R : Int) (W : List Int) (st : Int) : Prop where
  t1 : 1 ≤ T
  t8 : T ≤ 8
  r1 : 1 ≤ R
  r4 : R ≤ 4
  hl : W.length = 11 + 10 * T
  hw : ∀ j, 0 ≤ W.getD j 0 ∧ W.getD j 0 < 18446744073709551616
  s0 : 0 ≤ st
  s1 : st < 1000000
structure FC (T : Nat) (R : Int) (s : FS) : Prop where
  k1 : 1 ≤ s.key
  k2 : s.key ≤ 2147483647
  p1 : 1 ≤ s.ph
  p4 : s.ph ≤ 4
  f0 : 0 ≤ s.fd
  f1 : s.fd < R
  it : s.ph = 2 → s.i < T
  pe : s.ph = 3 → ∃ p : Nat, p < T ∧ s.pl = (p : Int)
structure LC (T : Nat) (R : Int) (s : LS) : Prop where
  p1 : s.ph = 1 ∨ s.ph = 2 ∨ s.ph = 4
  f0 : 0 ≤ s.fd
  f1 : s.fd < R
  it : s.ph = 2 → s.i < T
  tl : (lst s.told).length ≤ s.i
theorem fFail_c {T : Nat} {R : Int} {s : FS} (k1 : 1 ≤ s.key) (k2 : s.key ≤ 2147483647) (f0 : 0 ≤ s.fd) (f1 : s.fd < R) (h : (fFail R s).ph ≠ 0) : FC T R (fFail R s) := by
  unfold fFail at h ⊢
  split
  · rename_i e; rw [if_pos e] at h; exact absurd rfl h
  · exact ⟨k1, k2, by dsimp only; omega, by dsimp only; omega, by dsimp only; omega, by dsimp only; omega, fun q => by dsimp only at q; omega, fun q => by dsimp only at q; omega⟩
theorem fPl_lt {T start i : Nat} (h : 1 ≤ T) : fPl T start i < T := Nat.mod_lt _ (by omega)
theorem fStep_c {T : Nat} {R : Int} {start : Nat} {s : FS} {W : List Int} {st : Int} (B : FB T R W st) (C : FC T R s) (h : (fStep T R start s W st).s.ph ≠ 0) : FC T R (fStep T R start s W st).s := by
  have k1 := C.k1
  have k2 := C.k2
  have f0 := C.f0
  have f1 := C.f1
  have it := C.it
  have t1 := B.t1
  have p1 := C.p1
  have p4 := C.p4
  unfold fStep at h ⊢
  split
  · rename_i e; rw [if_pos e] at h
    dsimp only at h ⊢
    split
    · rename_i g; rw [if_pos g] at h; exact fFail_c k1 k2 f0 f1 h
    · exact ⟨k1, k2, by dsimp only; omega, by dsimp only; omega, f0, f1, fun _ => by dsimp only; omega, fun q => by dsimp only at q; omega⟩
  · rename_i e1; rw [if_neg e1] at h
    split
    · rename_i e2
      have := it e2
      dsimp only
      split
      · exact ⟨k1, k2, by dsimp only; omega, by dsimp only; omega, f0, f1, fun q => by dsimp only at q; omega, fun _ => ⟨_, fPl_lt t1, rfl⟩⟩
      · rename_i g
        split
        · exact ⟨k1, k2, by dsimp only; omega, by dsimp only; omega, f0, f1, fun q => by dsimp only at q; omega, fun q => by dsimp only at q; omega⟩
        · rename_i g2
          exact ⟨k1, k2, by dsimp only; omega, by dsimp only; omega, f0, f1, fun _ => by dsimp only; omega, fun q => by dsimp only at q; omega⟩
    · rename_i e2; rw [if_neg e2] at h
      split
      · exact ⟨k1, k2, by dsimp only; omega, by dsimp only; omega, f0, f1, fun q => by dsimp only at q; omega, fun q => by dsimp only at q; omega⟩
      · rename_i e3; rw [if_neg e3] at h
        dsimp only at h ⊢
        split
        · rename_i g; rw [if_pos g] at h; exact absurd rfl h
        · rename_i g; rw [if_neg g] at h; exact fFail_c k1 k2 f0 f1 h
theorem lFail_c {T : Nat} {R : Int} {s : LS} (f0 : 0 ≤ s.fd) (f1 : s.fd < R) (h : (lFail R s).ph ≠ 0) : LC T R (lFail R s) := by
  unfold lFail at h ⊢
  split
  · rename_i e; rw [if_pos e] at h; exact absurd rfl h
  · exact ⟨.inl rfl, by dsimp only; omega, by dsimp only; omega, fun q => by dsimp only at q; omega, Nat.zero_le _⟩
theorem lStep_c {T : Nat} {R : Int} {s : LS} {W : List Int} {st : Int} (B : FB T R W st) (C : LC T R s) (h : (lStep T R s W st).s.ph ≠ 0) : LC T R (lStep T R s W st).s := by
  have f0 := C.f0
  have f1 := C.f1
  have it := C.it
  have t1 := B.t1
  have p1 := C.p1
  have tl := C.tl
  unfold lStep at h ⊢
  split
  · rename_i e; rw [if_pos e] at h
    dsimp only at h ⊢
    split
    · rename_i g; rw [if_pos g] at h; exact lFail_c f0 f1 h
    · exact ⟨.inr (.inl rfl), f0, f1, fun _ => by dsimp only; omega, Nat.le_refl _⟩
  · rename_i e1; rw [if_neg e1] at h
    split
    · rename_i e2
      have := it e2
      dsimp only
      refine ⟨?_, f0, f1, fun q => ?_, ?_⟩
      · dsimp only
        split
        · exact .inr (.inr rfl)
        · exact .inr (.inl rfl)
      · dsimp only at q ⊢
        split at q
        · omega
        · omega
      · dsimp only
        split
        · simp only [lst, Option.getD_some, List.length_append, List.length_singleton]
          have tl' : (s.told.getD []).length ≤ s.i := tl
          omega
        · omega
    · rename_i e2; rw [if_neg e2] at h
      dsimp only at h ⊢
      split
      · rename_i g; rw [if_pos g] at h; exact absurd rfl h
      · rename_i g; rw [if_neg g] at h; exact lFail_c f0 f1 h
end Go.Proofs.YtkkddjchkkaagaaGreatDoor
