/- The directory: runs that create and remove, as functions. -/
import Derived.Test.YtkkddjchkkaagaaGreatDoorEntries
import Derived.Test.YtkkddjchkkaagaaGreatDoorMakeLaw
namespace Go.Proofs.YtkkddjchkkaagaaGreatDoor
open Go Go.Hx
set_option maxRecDepth 8000
/-- An entry's place, and a control word's. -/
def eP (p : Nat) : Nat := 6 + p
def cP (T p : Nat) : Nat := 6 + T + 9 * p
/-- A run: it removes, or creates (a large one); ph: the step that is next, 0: it is done. -/
structure TS where
  (rm lg : Bool) (key : Int) (ph : Nat) (seq : Int) (i : Nat) (fd : Int) (hd : Bool) (tm er pl sn fl bk ep tp : Int) (tl : Bool)
structure TR where
  (s : TS) (W : List Int) (kd wd vl : Int) (ch : Bool)
def tFail (R : Int) (s : TS) : TS := if s.fd + 1 = R then { s with fd := s.fd + 1, ph := 0, er := 17 } else { s with fd := s.fd + 1, ph := 1 }
def tMore (R : Int) (s : TS) : TS := if s.fl + 1 = R then { s with fl := s.fl + 1, ph := 7, er := 17 } else { s with fl := s.fl + 1, ph := 4 }
/-- The place that is looked at. -/
def tPl (T start i : Nat) : Nat := (start + i) % T
def tStep (T : Nat) (R : Int) (start : Nat) (s : TS) (W : List Int) (st : Int) : TR :=
  if s.ph = 1 then ⟨if W.getD 2 0 % 2 = 1 then tFail R { s with seq := W.getD 2 0 } else { s with seq := W.getD 2 0, ph := 2 }, W, 1, 2, W.getD 2 0, false⟩
  else if s.ph = 2 then if W.getD 2 0 = s.seq then ⟨{ s with hd := true, ph := 3 }, W.set 2 (s.seq + 1), 3, 2, s.seq + 1, true⟩ else ⟨tFail R { s with hd := false }, W, 3, 2, W.getD 2 0, false⟩
  else if s.ph = 3 then
    let p := tPl T start s.i
    let w := W.getD (eP p) 0
    let found := isK w && decide (w / 4 = s.key)
    let last := decide (w = 0) || decide (s.i + 1 = T)
    let pl := if s.rm then (if found then (p : Int) else s.pl) else (if isK w = false ∧ s.pl = -1 then (p : Int) else s.pl)
    let s1 := { s with i := s.i + 1, pl := pl }
    ⟨if s.rm then (if found then { s1 with ph := 4 } else if last then { s1 with ph := 7, tm := st + 1, er := 12 } else s1)
      else (if found then { s1 with ph := 7, tm := st + 1, er := 14 } else if last then (if pl = -1 then { s1 with ph := 7, tm := st + 1, er := 15 } else { s1 with ph := 4 }) else s1), W, 1, (eP p : Int), w, false⟩
  else if s.ph = 4 then ⟨if s.rm && buW (W.getD (cP T s.pl.toNat) 0) then tMore R { s with sn := W.getD (cP T s.pl.toNat) 0 } else { s with sn := W.getD (cP T s.pl.toNat) 0, ph := 5 }, W, 1, (cP T s.pl.toNat : Int), W.getD (cP T s.pl.toNat) 0, false⟩
  else if s.ph = 5 then if s.rm then
      (if W.getD (cP T s.pl.toNat) 0 = s.sn then ⟨{ s with ph := 6, tm := st + 1, bk := blW s.sn }, W.set (cP T s.pl.toNat) (goneW s.sn), 3, (cP T s.pl.toNat : Int), goneW s.sn, true⟩
       else ⟨tMore R s, W, 3, (cP T s.pl.toNat : Int), W.getD (cP T s.pl.toNat) 0, false⟩)
    else ⟨{ s with ph := 6, tm := st + 1, ep := epW s.sn, tp := s.pl, tl := s.lg }, W.set (cP T s.pl.toNat) (bornW s.sn), 2, (cP T s.pl.toNat : Int), bornW s.sn, true⟩
  else if s.ph = 6 then ⟨{ s with ph := 7 }, W.set (eP s.pl.toNat) (if s.rm then 1 else enK s.key s.lg), 2, (eP s.pl.toNat : Int), if s.rm then 1 else enK s.key s.lg, true⟩
  else if s.ph = 7 then ⟨{ s with ph := 0, hd := false }, W.set 2 (s.seq + 2), 2, 2, s.seq + 2, true⟩
  else ⟨s, W, 0, 0, 0, false⟩
/-! The directory. -/
section
variable {T start : Nat} {R st : Int} {s : TS} {W : List Int}
theorem tPl_lt (h : 1 ≤ T) (j : Nat) : tPl T start j < T := Nat.mod_lt _ (by omega)
theorem isK_ne {w : Int} (h : isK w = true) : w ≠ 0 ∧ w ≠ 1 := by
  simp only [isK, Bool.and_eq_true, decide_eq_true_eq] at h
  omega
theorem eP_2 {p : Nat} : eP p ≠ 2 := by unfold eP; omega
end
end Go.Proofs.YtkkddjchkkaagaaGreatDoor
