/- The directory: runs that create and remove, as functions. -/
import Derived.Test.YtkkddjchkkaagaaGreatDoorEntries
import Derived.Test.YtkkddjchkkaagaaGreatDoorMakeLaw
namespace Go.Proofs.YtkkddjchkkaagaaGreatDoor
open Go Go.Hx
set_option maxRecDepth 8000
/-- An entry's place, and a control word's. -/
def eP (p : Nat) : Nat := 6 + p
def cP (T p : Nat) : Nat := 6 + T + 9 * p
/-- A run: it removes, or creates (a large one); ph: the step that is next, 0: it is done. -/
structure TS where
  (rm lg : Bool) (key : Int) (ph : Nat) (seq : Int) (i : Nat) (fd : Int) (hd : Bool) (tm er pl sn fl bk ep tp : Int) (tl : Bool)
structure TR where
  (s : TS) (W : List Int) (kd wd vl : Int) (ch : Bool)
def tFail (R : Int) (s : TS) : TS := if s.fd + 1 = R then { s with fd := s.fd + 1, ph := 0, er := 17 } else { s with fd := s.fd + 1, ph := 1 }
def tMore (R : Int) (s : TS) : TS := if s.fl + 1 = R then { s with fl := s.fl + 1, ph := 7, er := 17 } else { s with fl := s.fl + 1, ph := 4 }
/-- The place that is looked at. -/
def tPl (T start i : Nat) : Nat := (start + i) % T
def tStep (T : Nat) (R : Int) (start : Nat) (s : TS) (W : List Int) (st : Int) : TR :=
  if s.ph = 1 then ⟨if W.getD 2 0 % 2 = 1 then tFail R { s with seq := W.getD 2 0 } else { s with seq := W.getD 2 0, ph := 2 }, W, 1, 2, W.getD 2 0, false⟩
  else if s.ph = 2 then if W.getD 2 0 = s.seq then ⟨{ s with hd := true, ph := 3 }, W.set 2 (s.seq + 1), 3, 2, s.seq + 1, true⟩ else ⟨tFail R { s with hd := false }, W, 3, 2, W.getD 2 0, false⟩
  else if s.ph = 3 then
    let p := tPl T start s.i
    let w := W.getD (eP p) 0
    let found := isK w && decide (w / 4 = s.key)
    let last := decide (w = 0) || decide (s.i + 1 = T)
    let pl := if s.rm then (if found then (p : Int) else s.pl) else (if isK w = false ∧ s.pl = -1 then (p : Int) else s.pl)
    let s1 := { s with i := s.i + 1, pl := pl }
    ⟨if s.rm then (if found then { s1 with ph := 4 } else if last then { s1 with ph := 7, tm := st + 1, er := 12 } else s1)
      else (if found then { s1 with ph := 7, tm := st + 1, er := 14 } else if last then (if pl = -1 then { s1 with ph := 7, tm := st + 1, er := 15 } else { s1 with ph := 4 }) else s1), W, 1, (eP p : Int), w, false⟩
  else if s.ph = 4 then ⟨if s.rm && buW (W.getD (cP T s.pl.toNat) 0) then tMore R { s with sn := W.getD (cP T s.pl.toNat) 0 } else { s with sn := W.getD (cP T s.pl.toNat) 0, ph := 5 }, W, 1, (cP T s.pl.toNat : Int), W.getD (cP T s.pl.toNat) 0, false⟩
  else if s.ph = 5 then if s.rm then
      (if W.getD (cP T s.pl.toNat) 0 = s.sn then ⟨{ s with ph := 6, tm := st + 1, bk := blW s.sn }, W.set (cP T s.pl.toNat) (goneW s.sn), 3, (cP T s.pl.toNat : Int), goneW s.sn, true⟩
       else ⟨tMore R s, W, 3, (cP T s.pl.toNat : Int), W.getD (cP T s.pl.toNat) 0, false⟩)
    else ⟨{ s with ph := 6, tm := st + 1, ep := epW s.sn, tp := s.pl, tl := s.lg }, W.set (cP T s.pl.toNat) (bornW s.sn), 2, (cP T s.pl.toNat : Int), bornW s.sn, true⟩
  else if s.ph = 6 then ⟨{ s with ph := 7 }, W.set (eP s.pl.toNat) (if s.rm then 1 else enK s.key s.lg), 2, (eP s.pl.toNat : Int), if s.rm then 1 else enK s.key s.lg, true⟩
  else if s.ph = 7 then ⟨{ s with ph := 0, hd := false }, W.set 2 (s.seq + 2), 2, 2, s.seq + 2, true⟩
  else ⟨s, W, 0, 0, 0, false⟩
/-! The directory. -/
/-- What the entries are, whoever holds it. -/
structure DE (T : Nat) (start : Int → Nat) (W : List Int) : Prop where
  t0 : 1 ≤ T
  hl : W.length = 11 + 10 * T
  e : ∀ p, p < T → W.getD (eP p) 0 = 0 ∨ W.getD (eP p) 0 = 1 ∨ (isK (W.getD (eP p) 0) = true ∧ 1 ≤ W.getD (eP p) 0 / 4 ∧ W.getD (eP p) 0 / 4 ≤ 6)
  u : ∀ p q, p < T → q < T → isK (W.getD (eP p) 0) = true → isK (W.getD (eP q) 0) = true → W.getD (eP p) 0 / 4 = W.getD (eP q) 0 / 4 → p = q
  r : ∀ p j, p < T → isK (W.getD (eP p) 0) = true → (∀ k, k ≤ j → tPl T (start (W.getD (eP p) 0 / 4)) k ≠ p) → W.getD (eP (tPl T (start (W.getD (eP p) 0 / 4)) j)) 0 ≠ 0
/-- Live just if an entry is a key's; but for the place x. -/
def LV (T : Nat) (W : List Int) (x : Nat → Prop) : Prop := ∀ p, p < T → x p ∨ isK (W.getD (eP p) 0) = liW (W.getD (cP T p) 0)
/-- What a run that holds the directory knows. -/
structure TK (T : Nat) (start : Nat) (W : List Int) (s : TS) : Prop where
  lk : s.ph = 3 → s.i < T ∧ ∀ j, j < s.i → W.getD (eP (tPl T start j)) 0 ≠ 0 ∧ ¬ (isK (W.getD (eP (tPl T start j)) 0) = true ∧ W.getD (eP (tPl T start j)) 0 / 4 = s.key)
  cr : s.rm = false → s.ph = 3 → (s.pl = -1 ∧ ∀ j, j < s.i → isK (W.getD (eP (tPl T start j)) 0) = true) ∨ (∃ j, j < s.i ∧ s.pl = (tPl T start j : Int) ∧ isK (W.getD (eP (tPl T start j)) 0) = false ∧ ∀ k, k < j → isK (W.getD (eP (tPl T start k)) 0) = true)
  c4 : s.rm = false → 4 ≤ s.ph → s.ph ≤ 6 → (∀ p, p < T → isK (W.getD (eP p) 0) = true → W.getD (eP p) 0 / 4 ≠ s.key) ∧ ∃ j, s.pl = (tPl T start j : Int) ∧ isK (W.getD (eP (tPl T start j)) 0) = false ∧ ∀ k, k < j → isK (W.getD (eP (tPl T start k)) 0) = true
  r4 : s.rm = true → 4 ≤ s.ph → s.ph ≤ 6 → ∃ p, p < T ∧ s.pl = (p : Int) ∧ isK (W.getD (eP p) 0) = true ∧ W.getD (eP p) 0 / 4 = s.key
section
variable {T start : Nat} {R st : Int} {s : TS} {W : List Int}
theorem tPl_lt (h : 1 ≤ T) (j : Nat) : tPl T start j < T := Nat.mod_lt _ (by omega)
/-- Each place is met within T looks. -/
theorem tPl_all (_h : 1 ≤ T) {p : Nat} (hp : p < T) (hs : start < T) : ∃ j, j < T ∧ tPl T start j = p := by
  by_cases g : start ≤ p
  · exact ⟨p - start, by omega, by unfold tPl; rw [show start + (p - start) = p by omega]; exact Nat.mod_eq_of_lt hp⟩
  · refine ⟨p + T - start, by omega, ?_⟩
    unfold tPl
    rw [show start + (p + T - start) = p + T by omega, Nat.add_mod_right]
    exact Nat.mod_eq_of_lt hp
/-- Behind a look that is the last one, the key is nowhere. -/
theorem absent {sf : Int → Nat} {key : Int} (d : DE T sf W) (hs : sf key < T) (n : Nat) (hn : ∀ j, j < n → ¬ (isK (W.getD (eP (tPl T (sf key) j)) 0) = true ∧ W.getD (eP (tPl T (sf key) j)) 0 / 4 = key))
    (hlast : n = T ∨ ∃ j, j + 1 = n ∧ W.getD (eP (tPl T (sf key) j)) 0 = 0) : ∀ p, p < T → isK (W.getD (eP p) 0) = true → W.getD (eP p) 0 / 4 ≠ key := by
  intro p hp hk he
  rcases hlast with rfl | ⟨j, hj, h0⟩
  · obtain ⟨j, hj, e⟩ := tPl_all d.t0 hp hs
    refine hn j hj ?_
    rw [e]
    exact ⟨hk, he⟩
  · have := d.r p j hp hk
    rw [he] at this
    refine this (fun k hk2 e => ?_) h0
    refine hn k (by omega) ?_
    rw [e]
    exact ⟨hk, he⟩
theorem enK_is {key : Int} {lg : Bool} (h1 : 1 ≤ key) (h6 : key ≤ 6) : isK (enK key lg) = true ∧ enK key lg / 4 = key ∧ enK key lg ≠ 0 := by
  cases lg
  · simp only [enK, isK, Bool.and_eq_true]
    refine ⟨⟨?_, ?_, ?_⟩, ?_, ?_⟩ <;> simp <;> omega
  · simp only [enK, isK, Bool.and_eq_true, decide_eq_true_eq]
    refine ⟨⟨?_, ?_, ?_⟩, ?_, ?_⟩ <;> simp <;> omega
theorem isK_ne {w : Int} (h : isK w = true) : w ≠ 0 ∧ w ≠ 1 := by
  simp only [isK, Bool.and_eq_true, decide_eq_true_eq] at h
  omega
theorem eP_inj {p q : Nat} (h : eP p = eP q) : p = q := by unfold eP at h; omega
theorem eP_2 {p : Nat} : eP p ≠ 2 := by unfold eP; omega
theorem eP_cP {p q : Nat} (h : p < T) : eP p ≠ cP T q := by unfold eP cP; omega
theorem eP_lt {p : Nat} {sf : Int → Nat} (d : DE T sf W) (h : p < T) : eP p < W.length := by have := d.hl; unfold eP; omega
theorem cP_inj {p q : Nat} (h : cP T p = cP T q) : p = q := by unfold cP at h; omega
theorem cP_lt {p : Nat} {sf : Int → Nat} (d : DE T sf W) (h : p < T) : cP T p < W.length := by have := d.hl; have := d.t0; unfold cP; omega
theorem DE.same {sf : Int → Nat} {W' : List Int} (d : DE T sf W) (hl : W'.length = W.length) (h : ∀ p, p < T → W'.getD (eP p) 0 = W.getD (eP p) 0) : DE T sf W' := by
  refine ⟨d.t0, by rw [hl]; exact d.hl, fun p hp => by rw [h p hp]; exact d.e p hp, fun p q hp hq a b c => ?_, fun p j hp a b => ?_⟩
  · rw [h p hp] at a c; rw [h q hq] at b c; exact d.u p q hp hq a b c
  · rw [h p hp] at a b ⊢
    rw [h _ (tPl_lt d.t0 j)]
    exact d.r p j hp a b
/-- A key is entered. -/
theorem DE.enter {sf : Int → Nat} {key : Int} {lg : Bool} {j0 : Nat} (d : DE T sf W) (h1 : 1 ≤ key) (h6 : key ≤ 6) (ab : ∀ p, p < T → isK (W.getD (eP p) 0) = true → W.getD (eP p) 0 / 4 ≠ key)
    (pr : ∀ k, k < j0 → isK (W.getD (eP (tPl T (sf key) k)) 0) = true) : DE T sf (W.set (eP (tPl T (sf key) j0)) (enK key lg)) := by
  have hp0 : tPl T (sf key) j0 < T := tPl_lt d.t0 j0
  obtain ⟨k1, k2, k3⟩ := enK_is (lg := lg) h1 h6
  have hv : ∀ p, p < T → (W.set (eP (tPl T (sf key) j0)) (enK key lg)).getD (eP p) 0 = if p = tPl T (sf key) j0 then enK key lg else W.getD (eP p) 0 := fun p hp => by
    rw [set_getD]
    by_cases g : p = tPl T (sf key) j0
    · rw [if_pos g, if_pos ⟨by rw [g], eP_lt d hp⟩]
    · rw [if_neg g, if_neg (fun q => g (eP_inj q.1).symm)]
  refine ⟨d.t0, by simp only [List.length_set]; exact d.hl, fun p hp => ?_, fun p q hp hq a b c => ?_, fun p j hp a b => ?_⟩
  · rw [hv p hp]
    split
    · exact .inr (.inr ⟨k1, by rw [k2]; exact ⟨h1, h6⟩⟩)
    · exact d.e p hp
  · rw [hv p hp] at a c
    rw [hv q hq] at b c
    split at a
    · rename_i g
      split at b
      · rename_i g2; rw [g, g2]
      · rename_i g2
        rw [if_pos g, if_neg g2, k2] at c
        exact absurd c.symm (ab q hq b)
    · rename_i g
      split at b
      · rename_i g2
        rw [if_neg g, if_pos g2, k2] at c
        exact absurd c (ab p hp a)
      · rename_i g2
        rw [if_neg g, if_neg g2] at c
        exact d.u p q hp hq a b c
  · have hx := tPl_lt (start := sf ((W.set (eP (tPl T (sf key) j0)) (enK key lg)).getD (eP p) 0 / 4)) d.t0 j
    rw [hv _ hx]
    split
    · exact k3
    · rename_i gx
      rw [hv p hp] at a b gx ⊢
      by_cases g : p = tPl T (sf key) j0
      · rw [if_pos g] at a b gx ⊢
        rw [k2] at b gx ⊢
        by_cases hj : j < j0
        · exact (isK_ne (pr j hj)).1
        · exact absurd g.symm (b j0 (by omega))
      · rw [if_neg g] at a b gx ⊢
        exact d.r p j hp a b
/-- A place is left. -/
theorem DE.leave {sf : Int → Nat} {p0 : Nat} (d : DE T sf W) (_hp0 : p0 < T) : DE T sf (W.set (eP p0) 1) := by
  have hv : ∀ p, p < T → (W.set (eP p0) 1).getD (eP p) 0 = if p = p0 then 1 else W.getD (eP p) 0 := fun p hp => by
    rw [set_getD]
    by_cases g : p = p0
    · rw [if_pos g, if_pos ⟨by rw [g], eP_lt d hp⟩]
    · rw [if_neg g, if_neg (fun q => g (eP_inj q.1).symm)]
  have n1 : isK 1 = false := by decide
  refine ⟨d.t0, by simp only [List.length_set]; exact d.hl, fun p hp => ?_, fun p q hp hq a b c => ?_, fun p j hp a b => ?_⟩
  · rw [hv p hp]
    split
    · exact .inr (.inl rfl)
    · exact d.e p hp
  · rw [hv p hp] at a c
    rw [hv q hq] at b c
    split at a
    · rw [n1] at a; cases a
    · rename_i g
      split at b
      · rw [n1] at b; cases b
      · rename_i g2
        rw [if_neg g, if_neg g2] at c
        exact d.u p q hp hq a b c
  · have hx := tPl_lt (start := sf ((W.set (eP p0) 1).getD (eP p) 0 / 4)) d.t0 j
    rw [hv _ hx]
    split
    · decide
    · rw [hv p hp] at a b ⊢
      split at a
      · rw [n1] at a; cases a
      · rename_i g
        rw [if_neg g] at b ⊢
        exact d.r p j hp a b
end
end Go.Proofs.YtkkddjchkkaagaaGreatDoor
