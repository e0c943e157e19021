/- A run's step, told as a function of the run and of the words; as rows of the table. -/
import Derived.Test.YtmghcelohnlceaaGreatDoorWorldLaw
namespace Go.Proofs.YtmghcelohnlceaaGreatDoor
open Go Go.Hx
set_option maxRecDepth 8000
/-- What a step of a write makes of it, and of the words; k: it goes on (0), is done with an error (1), is done (2). -/
structure WR where
  (nx sn fl cm tm i : Int) (hd : Bool) (W : List Int) (kd wd vl : Int) (ch : Bool) (k : Nat) (c : Int)
def wPos (s : WS) : Int := 8 + 4 * ((geW s.sn + 1) % 2) + s.i
def wStep (R : Int) (s : WS) (W : List Int) (st : Int) : WR :=
  if s.nx = 1 then
    if ¬ (liW (W.getD 7 0) = true ∧ epW (W.getD 7 0) = s.ep) then ⟨0, W.getD 7 0, s.fl, 0, st + 1, s.i, s.hd, W, 1, 7, W.getD 7 0, false, 1, 22⟩
    else if geW (W.getD 7 0) = 2147483647 then ⟨0, W.getD 7 0, s.fl, 0, st + 1, s.i, s.hd, W, 1, 7, W.getD 7 0, false, 1, 16⟩
    else if buW (W.getD 7 0) = true then
      if s.fl + 1 = R then ⟨0, W.getD 7 0, s.fl + 1, 0, st + 1, s.i, s.hd, W, 1, 7, W.getD 7 0, false, 1, 17⟩
      else ⟨1, W.getD 7 0, s.fl + 1, 0, st + 1, s.i, s.hd, W, 1, 7, W.getD 7 0, false, 0, 0⟩
    else ⟨2, W.getD 7 0, s.fl, 0, st + 1, s.i, s.hd, W, 1, 7, W.getD 7 0, false, 0, 0⟩
  else if s.nx = 2 then
    if W.getD 7 0 = s.sn then ⟨3, s.sn, s.fl, 0, s.tm, s.i, true, W.set 7 (busyW s.sn), 3, 7, busyW s.sn, true, 0, 0⟩
    else if s.fl + 1 = R then ⟨0, s.sn, s.fl + 1, 0, s.tm, s.i, false, W, 3, 7, W.getD 7 0, false, 1, 17⟩
    else ⟨1, s.sn, s.fl + 1, 0, s.tm, s.i, false, W, 3, 7, W.getD 7 0, false, 0, 0⟩
  else if s.nx = 3 then ⟨if s.i + 1 = s.l.length then 4 else 3, s.sn, s.fl, 0, s.tm, s.i + 1, s.hd, W.set (wPos s).toNat (s.l.getD s.i.toNat 0), 2, wPos s, s.l.getD s.i.toNat 0, true, 0, 0⟩
  else ⟨0, s.sn, s.fl, st + 1, s.tm, s.i, false, W.set 7 (writW (busyW s.sn)), 2, 7, writW (busyW s.sn), true, 2, 0⟩
section
variable {R : Int} {s : WS} {W : List Int} {st kd wd vl : Int} {ch : Bool}
variable (ok : WOk R s) (h1 : 1 ≤ R) (h2 : R ≤ 8) (hl : 16 ≤ W.length) (hs : 0 ≤ st) (hs' : st < 1000000) (hw0 : 0 ≤ W.getD 7 0) (hw1 : W.getD 7 0 < 18446744073709551616)
include ok h1 h2 hl hs hs' hw0 hw1
theorem wAll_fn : Gives Tryz.prog 13 [.ptr 0 0, .ptr 1 0] [.obj (wrO R s.ep s.nx s.sn s.fl 0 s.tm .niliface 3 s.l.length s.i s.hd), AOx 2 W st kd wd vl ch, WO W, wdE s.l]
    (Is (match (wStep R s W st).k with | 0 => .ff | _ => .tt) [.obj (wrO R s.ep (wStep R s W st).nx (wStep R s W st).sn (wStep R s W st).fl (wStep R s W st).cm (wStep R s W st).tm (match (wStep R s W st).k with | 1 => erO (wStep R s W st).c | _ => .niliface) 3 s.l.length (wStep R s W st).i (wStep R s W st).hd),
      AOx 2 (wStep R s W st).W (st + 1) (wStep R s W st).kd (wStep R s W st).wd (wStep R s W st).vl (wStep R s W st).ch, WO (wStep R s W st).W, wdE s.l]) := by
  obtain ⟨ep, nx, sn, fl, tm, i, hd, l⟩ := s
  have x0 : 1 ≤ nx := ok.nx0
  have x1 : nx ≤ 4 := ok.nx1
  have f0 : 0 ≤ fl := ok.fl0
  have f1 : fl < R := ok.fl1
  have n0 : 0 ≤ sn := ok.sn0
  have n1 : sn < 18446744073709551616 := ok.sn1
  have hn : nx = 1 ∨ nx = 2 ∨ nx = 3 ∨ nx = 4 := by omega
  unfold wStep
  dsimp only
  rcases hn with rfl | rfl | rfl | rfl
  · rw [if_pos rfl]
    by_cases g : liW (W.getD 7 0) = true ∧ epW (W.getD 7 0) = ep
    · rw [if_neg (fun q => q g)]
      by_cases g3 : geW (W.getD 7 0) = 2147483647
      · rw [if_pos g3]; exact wOver_fn h1 h2 hl hs hs' hw0 hw1 g.1 g.2 g3
      · rw [if_neg g3]
        by_cases g4 : buW (W.getD 7 0) = true
        · rw [if_pos g4]
          by_cases g5 : fl + 1 = R
          · rw [if_pos g5]; exact wBusyL_fn h1 h2 hl hs hs' hw0 hw1 g.1 g.2 g3 f0 g5 g4
          · rw [if_neg g5]; exact wBusy_fn h1 h2 hl hs hs' hw0 hw1 g.1 g.2 g3 f0 (by omega) g4
        · rw [if_neg g4]; exact wLook_fn h1 h2 hl hs hs' hw0 hw1 g.1 g.2 g3 (by simpa using g4)
    · rw [if_pos g]; exact wGone_fn h1 h2 hl hs hs' hw0 hw1 g
  · rw [if_neg (by decide), if_pos rfl]
    by_cases g : W.getD 7 0 = sn
    · rw [if_pos g]; exact wHold_fn h1 h2 hl hs hs' n0 n1 g
    · rw [if_neg g]
      by_cases g5 : fl + 1 = R
      · rw [if_pos g5]; exact wLostL_fn h1 h2 hl hs hs' n0 n1 f0 g5 g
      · rw [if_neg g5]; exact wLost_fn h1 h2 hl hs hs' n0 n1 f0 (by omega) g
  · rw [if_neg (by decide), if_neg (by decide), if_pos rfl]
    exact wWord_fn h1 h2 hl hs hs' n0 n1 ok.i0 (ok.i1 (by show (3 : Int) ≤ 3; decide)) ok.l1
  · rw [if_neg (by decide), if_neg (by decide), if_neg (by decide)]
    have q := ok.lv (by show (2 : Int) ≤ 4; decide)
    exact wClose_fn h1 h2 hl hs hs' n0 n1 q.1 q.2.1
end
/-- A write's step as a row: κ tells of which kind it is, r what comes of it. -/
def wStG (κ : Nat) (r : WR) : Hx.Spec := fun args H => match args with
  | [.ptr h 0, .ptr ha 0] => match wrA H h, arP H ha with
    | some (R, ep, nx, sn, fl, cm, tm, e, hl, l, i, b, ob1), some (hw, ⟨W, st, _kd, _wd, _vl, _ch⟩, ob2) => match nodupN [h, ha, hw, hl] with
      | true => some ((e = .niliface) :: (cm = 0) :: (WOk R ⟨ep, nx, sn, fl, tm, i, b, l⟩) :: (1 ≤ R) :: (R ≤ 8) :: (16 ≤ W.length) :: (0 ≤ st) :: (st < 1000000) :: (0 ≤ W.getD 7 0) :: (W.getD 7 0 < 18446744073709551616) :: (wStep R ⟨ep, nx, sn, fl, tm, i, b, l⟩ W st = r) :: (r.k = κ) :: ob1 ++ ob2, (match κ with | 0 => .ff | _ => .tt),
          fin4 H h (wrO R ep r.nx r.sn r.fl r.cm r.tm (match κ with | 1 => erO r.c | _ => .niliface) hl l.length r.i r.hd) ha hw r.W (st + 1) r.kd r.wd r.vl r.ch hl l)
      | false => none
    | _, _ => none
  | _ => none
theorem wStG_ok {κ : Nat} {r : WR} {args : List SV} {H : List HE} {ob : List Prop} {V : SV} {L : List HE} (hs : wStG κ r args H = some (ob, V, L)) (ho : AllP ob) : Gives Tryz.prog 13 args H (Is V L) := by
  unfold wStG at hs
  split at hs
  case h_2 => simp at hs
  rename_i _ h ha
  split at hs
  case h_2 => simp at hs
  rename_i _ _ R ep nx sn fl cm tm e hl l i b ob1 hw W st kd wd vl ch ob2 hq hp
  split at hs
  case h_2 => simp at hs
  rename_i hnd
  simp only [Option.some.injEq, Prod.mk.injEq] at hs
  obtain ⟨rfl, rfl, rfl⟩ := hs
  simp only [AllP, List.cons_append, List.mem_cons, List.mem_append, forall_eq_or_imp] at ho
  obtain ⟨q1, q2, q3, p1, p2, p3, p4, p5, p6, p7, q4, q5, hr⟩ := ho
  subst q1; subst q2
  obtain ⟨g1, g2⟩ := wrA_get hq (fun p hp => hr p (.inl hp))
  obtain ⟨g3, g4⟩ := arP_get hp (fun p hp => hr p (.inr hp))
  have hall := wAll_fn (kd := kd) (wd := wd) (vl := vl) (ch := ch) q3 p1 p2 p3 p4 p5 p6 p7
  rw [q4] at hall
  subst q5
  refine step4_ok (o := fun x => wrO R ep nx sn fl 0 tm .niliface x l.length i b) (o' := fun x => wrO R ep r.nx r.sn r.fl r.cm r.tm (match r.k with | 1 => erO r.c | _ => .niliface) x l.length r.i r.hd) hall (fun _ _ => rfl) (fun σ x => ?_) (fun σ => ?_) rfl g3 g4 g1 g2 hnd
  · rcases r.k with _ | _ | k <;> rfl
  · rcases r.k with _ | k <;> rfl
/-! What is so behind a write's step. -/
section
variable {R : Int} {s : WS} {W : List Int} {st : Int}
structure WAft (R : Int) (s : WS) (W : List Int) (st : Int) (r : WR) : Prop where
  go : r.k = 0 → r.cm = 0 ∧ WOk R ⟨s.ep, r.nx, r.sn, r.fl, r.tm, r.i, r.hd, s.l⟩
  hl : r.W.length = W.length
  hw : ∀ j, 0 ≤ r.W.getD j 0 ∧ r.W.getD j 0 < 18446744073709551616
  un : ¬ (r.wd = 7 ∧ r.ch = true) → r.W.getD 7 0 = W.getD 7 0
  k2 : r.k ≤ 2
  er : r.k = 1 → r.wd = 7 ∧ r.ch = false
  fin : r.k = 2 → r.wd = 7 ∧ r.ch = true
theorem wAft (ok : WOk R s) (hw : ∀ j, 0 ≤ W.getD j 0 ∧ W.getD j 0 < 18446744073709551616) : WAft R s W st (wStep R s W st) := by
  obtain ⟨ep, nx, sn, fl, tm, i, hd, l⟩ := s
  have x0 : 1 ≤ nx := ok.nx0
  have x1 : nx ≤ 4 := ok.nx1
  have f0 : 0 ≤ fl := ok.fl0
  have f1 : fl < R := ok.fl1
  have n0 : 0 ≤ sn := ok.sn0
  have n1 : sn < 18446744073709551616 := ok.sn1
  have w0 := (hw 7).1
  have w1 := (hw 7).2
  have hn : nx = 1 ∨ nx = 2 ∨ nx = 3 ∨ nx = 4 := by omega
  unfold wStep
  dsimp only
  rcases hn with rfl | rfl | rfl | rfl
  · rw [if_pos rfl]
    split
    · exact ⟨fun q => absurd (show (1 : Nat) = 0 from q) (by decide), rfl, hw, fun _ => rfl, by show (1 : Nat) ≤ 2; decide, fun _ => ⟨rfl, rfl⟩, fun q => absurd (show (1 : Nat) = 2 from q) (by decide)⟩
    · rename_i g
      have g := Decidable.of_not_not g
      split
      · exact ⟨fun q => absurd (show (1 : Nat) = 0 from q) (by decide), rfl, hw, fun _ => rfl, by show (1 : Nat) ≤ 2; decide, fun _ => ⟨rfl, rfl⟩, fun q => absurd (show (1 : Nat) = 2 from q) (by decide)⟩
      · rename_i g3
        split
        · split
          · exact ⟨fun q => absurd (show (1 : Nat) = 0 from q) (by decide), rfl, hw, fun _ => rfl, by show (1 : Nat) ≤ 2; decide, fun _ => ⟨rfl, rfl⟩, fun q => absurd (show (1 : Nat) = 2 from q) (by decide)⟩
          · rename_i g5; exact ⟨fun _ => ⟨rfl, wok_busy ok w0 w1 rfl (by show fl + 1 < R; omega)⟩, rfl, hw, fun _ => rfl, by show (0 : Nat) ≤ 2; decide, fun q => absurd (show (0 : Nat) = 1 from q) (by decide), fun q => absurd (show (0 : Nat) = 2 from q) (by decide)⟩
        · rename_i g4; exact ⟨fun _ => ⟨rfl, wok_look ok w0 w1 rfl g.1 g.2 g3 (by simpa using g4)⟩, rfl, hw, fun _ => rfl, by show (0 : Nat) ≤ 2; decide, fun q => absurd (show (0 : Nat) = 1 from q) (by decide), fun q => absurd (show (0 : Nat) = 2 from q) (by decide)⟩
  · rw [if_neg (by decide), if_pos rfl]
    split
    · exact ⟨fun _ => ⟨rfl, wok_hold ok rfl⟩, List.length_set, rg_set hw (busy_r n0 n1).1 (busy_r n0 n1).2, fun q => absurd ⟨rfl, rfl⟩ q, by show (0 : Nat) ≤ 2; decide, fun q => absurd (show (0 : Nat) = 1 from q) (by decide), fun q => absurd (show (0 : Nat) = 2 from q) (by decide)⟩
    · split
      · exact ⟨fun q => absurd (show (1 : Nat) = 0 from q) (by decide), rfl, hw, fun _ => rfl, by show (1 : Nat) ≤ 2; decide, fun _ => ⟨rfl, rfl⟩, fun q => absurd (show (1 : Nat) = 2 from q) (by decide)⟩
      · rename_i g5; exact ⟨fun _ => ⟨rfl, wok_lost ok rfl (by show fl + 1 < R; omega)⟩, rfl, hw, fun _ => rfl, by show (0 : Nat) ≤ 2; decide, fun q => absurd (show (0 : Nat) = 1 from q) (by decide), fun q => absurd (show (0 : Nat) = 2 from q) (by decide)⟩
  · rw [if_neg (by decide), if_neg (by decide), if_pos rfl]
    have i0 : 0 ≤ i := ok.i0
    refine ⟨fun _ => ⟨rfl, wok_word ok rfl⟩, List.length_set, rg_set hw (ok.lr _).1 (ok.lr _).2, fun _ => ?_, by show (0 : Nat) ≤ 2; decide, fun q => absurd (show (0 : Nat) = 1 from q) (by decide), fun q => absurd (show (0 : Nat) = 2 from q) (by decide)⟩
    show (W.set (8 + 4 * ((geW sn + 1) % 2) + i).toNat (l.getD i.toNat 0)).getD 7 0 = W.getD 7 0
    rw [set_getD, if_neg (fun q => by omega)]
  · rw [if_neg (by decide), if_neg (by decide), if_neg (by decide)]
    have q := ok.lv (by show (2 : Int) ≤ 4; decide)
    exact ⟨fun q => absurd (show (2 : Nat) = 0 from q) (by decide), List.length_set, rg_set hw (writ_r n0 n1 q.2.1).1 (writ_r n0 n1 q.2.1).2, fun q => absurd ⟨rfl, rfl⟩ q, by show (2 : Nat) ≤ 2; decide, fun q => absurd (show (2 : Nat) = 1 from q) (by decide), fun _ => ⟨rfl, rfl⟩⟩
end
/-- What a step of a read makes of it; k: it looked (0), is done with an error and no words (1), is done (2), has one word more (3), failed (4), failed and is done (5). -/
structure RR where
  (nx sn fl tm : Int) (o : Option (List Int)) (wd vl : Int) (k : Nat) (c : Int)
def rPos (s : RS) : Int := 8 + 4 * (geW s.sn % 2) + ((lst s.o).length : Int)
def rStep (R : Int) (s : RS) (W : List Int) (st : Int) : RR :=
  if s.nx = 1 then
    if ¬ (liW (W.getD 7 0) = true ∧ epW (W.getD 7 0) = s.ep) then ⟨0, W.getD 7 0, s.fl, st + 1, none, 7, W.getD 7 0, 1, 22⟩
    else if geW (W.getD 7 0) = 0 then ⟨0, W.getD 7 0, s.fl, st + 1, none, 7, W.getD 7 0, 1, 20⟩
    else ⟨3, W.getD 7 0, s.fl, st + 1, none, 7, W.getD 7 0, 0, 0⟩
  else if s.nx = 3 then ⟨if (lst s.o).length + 1 = 4 then 4 else 3, s.sn, s.fl, s.tm, some (lst s.o ++ [W.getD (rPos s).toNat 0]), rPos s, W.getD (rPos s).toNat 0, 3, 0⟩
  else if stillB s.sn (W.getD 7 0) = true then ⟨0, s.sn, s.fl, s.tm, s.o, 7, W.getD 7 0, 2, 0⟩
  else if s.fl + 1 = R then ⟨0, s.sn, s.fl + 1, s.tm, s.o, 7, W.getD 7 0, 5, 17⟩
  else ⟨1, s.sn, s.fl + 1, s.tm, s.o, 7, W.getD 7 0, 4, 0⟩
section
variable {R : Int} {s : RS} {W : List Int} {st : Int}
theorem rk1 (h : s.nx = 1) : (rStep R s W st).k = 0 ∨ (rStep R s W st).k = 1 := by
  unfold rStep
  rw [if_pos h]
  split
  · exact .inr rfl
  · split
    · exact .inr rfl
    · exact .inl rfl
theorem rk3 (h : s.nx = 3) : (rStep R s W st).k = 3 := by
  unfold rStep
  rw [if_neg (by omega), if_pos h]
theorem rk4 (h : s.nx = 4) : (rStep R s W st).k = 2 ∨ (rStep R s W st).k = 4 ∨ (rStep R s W st).k = 5 := by
  unfold rStep
  rw [if_neg (by omega), if_neg (by omega)]
  split
  · exact .inl rfl
  · split
    · exact .inr (.inr rfl)
    · exact .inr (.inl rfl)
structure RAft (R : Int) (s : RS) (W : List Int) (r : RR) : Prop where
  go : (r.k = 0 ∨ r.k = 3 ∨ r.k = 4) → ROk R ⟨s.ep, r.nx, r.sn, r.fl, r.tm, r.o⟩
  lk : r.k = 0 → s.nx = 1 ∧ r.o = none ∧ r.sn = W.getD 7 0 ∧ r.fl = s.fl ∧ r.nx = 3
  wd : r.k = 3 → s.nx = 3 ∧ r.sn = s.sn ∧ r.fl = s.fl ∧ (r.nx = 3 ∨ r.nx = 4) ∧ (lst s.o).length < 4 ∧ r.o = some (lst s.o ++ [r.vl]) ∧ r.vl = W.getD (rPos s).toNat 0
  fa : (r.k = 4 ∨ r.k = 5) → s.nx = 4 ∧ stillB s.sn (W.getD 7 0) = false ∧ r.fl = s.fl + 1 ∧ r.o = s.o
  f4 : r.k = 4 → r.nx = 1
  ok2 : r.k = 2 → s.nx = 4 ∧ stillB s.sn (W.getD 7 0) = true ∧ r.o = s.o ∧ r.fl = s.fl
  k1 : r.k = 1 → s.nx = 1 ∧ r.o = none ∧ r.fl = s.fl
  k5 : r.k ≤ 5
theorem rAft (ok : ROk R s) (w0 : 0 ≤ W.getD 7 0) (w1 : W.getD 7 0 < 18446744073709551616) : RAft R s W (rStep R s W st) := by
  obtain ⟨ep, nx, sn, fl, tm, o⟩ := s
  have f1 : fl < R := ok.fl1
  have hn : nx = 1 ∨ nx = 3 ∨ nx = 4 := ok.nxc
  unfold rStep
  dsimp only
  rcases hn with rfl | rfl | rfl
  · rw [if_pos rfl]
    by_cases g : liW (W.getD 7 0) = true ∧ epW (W.getD 7 0) = ep
    · rw [if_neg (fun q => q g)]
      by_cases g3 : geW (W.getD 7 0) = 0
      · rw [if_pos g3]
        exact ⟨fun q => by simp at q, fun q => by simp at q, fun q => by simp at q, fun q => by simp at q, fun q => by simp at q, fun q => by simp at q, fun _ => ⟨rfl, rfl, rfl⟩, by show (1 : Nat) ≤ 5; decide⟩
      · rw [if_neg g3]
        exact ⟨fun _ => rok_look ok w0 w1 g.1 g.2 g3, fun _ => ⟨rfl, rfl, rfl, rfl, rfl⟩, fun q => by simp at q, fun q => by simp at q, fun q => by simp at q, fun q => by simp at q, fun q => by simp at q, by show (0 : Nat) ≤ 5; decide⟩
    · rw [if_pos g]
      exact ⟨fun q => by simp at q, fun q => by simp at q, fun q => by simp at q, fun q => by simp at q, fun q => by simp at q, fun q => by simp at q, fun _ => ⟨rfl, rfl, rfl⟩, by show (1 : Nat) ≤ 5; decide⟩
  · rw [if_neg (by decide), if_pos rfl]
    exact ⟨fun _ => rok_word ok rfl, fun q => by simp at q, fun _ => ⟨rfl, rfl, rfl, by (show (if (lst o).length + 1 = 4 then (4 : Int) else 3) = 3 ∨ (if (lst o).length + 1 = 4 then (4 : Int) else 3) = 4); split <;> simp, ok.w3 rfl, rfl, rfl⟩, fun q => by simp at q, fun q => by simp at q, fun q => by simp at q, fun q => by simp at q, by show (3 : Nat) ≤ 5; decide⟩
  · rw [if_neg (by decide), if_neg (by decide)]
    by_cases g : stillB sn (W.getD 7 0) = true
    · rw [if_pos g]
      exact ⟨fun q => by simp at q, fun q => by simp at q, fun q => by simp at q, fun q => by simp at q, fun q => by simp at q, fun _ => ⟨rfl, g, rfl, rfl⟩, fun q => by simp at q, by show (2 : Nat) ≤ 5; decide⟩
    · have g' : stillB sn (W.getD 7 0) = false := by simpa using g
      rw [if_neg g]
      by_cases g5 : fl + 1 = R
      · rw [if_pos g5]
        exact ⟨fun q => by simp at q, fun q => by simp at q, fun q => by simp at q, fun _ => ⟨rfl, g', rfl, rfl⟩, fun q => by simp at q, fun q => by simp at q, fun q => by simp at q, by show (5 : Nat) ≤ 5; decide⟩
      · rw [if_neg g5]
        exact ⟨fun _ => rok_fail ok (by show fl + 1 < R; omega), fun q => by simp at q, fun q => by simp at q, fun _ => ⟨rfl, g', rfl, rfl⟩, fun _ => rfl, fun q => by simp at q, fun q => by simp at q, by show (4 : Nat) ≤ 5; decide⟩
end
section
variable {R ep nx sn fl tm : Int} {l : List Int} {W : List Int} {st kd wd vl : Int} {ch : Bool}
variable (h1 : 1 ≤ R) (h2 : R ≤ 8) (hl : 16 ≤ W.length) (hs : 0 ≤ st) (hs' : st < 1000000) (hw0 : 0 ≤ W.getD 7 0) (hw1 : W.getD 7 0 < 18446744073709551616)
include h1 h2 hl hs hs' hw0 hw1
theorem rLk0_fn : Gives Tryz.prog 14 [.ptr 0 0, .ptr 1 0] [.obj (rdO R ep 1 sn fl 0 tm .niliface .nilslice), AOx 2 W st kd wd vl ch, WO W]
    (Is (match (rStep R ⟨ep, 1, sn, fl, tm, none⟩ W st).k with | 0 => .ff | _ => .tt) [.obj (rdO R ep (rStep R ⟨ep, 1, sn, fl, tm, none⟩ W st).nx (rStep R ⟨ep, 1, sn, fl, tm, none⟩ W st).sn (rStep R ⟨ep, 1, sn, fl, tm, none⟩ W st).fl 0 (rStep R ⟨ep, 1, sn, fl, tm, none⟩ W st).tm (match (rStep R ⟨ep, 1, sn, fl, tm, none⟩ W st).k with | 0 => .niliface | _ => erO (rStep R ⟨ep, 1, sn, fl, tm, none⟩ W st).c) .nilslice),
      AOx 2 W (st + 1) 1 (rStep R ⟨ep, 1, sn, fl, tm, none⟩ W st).wd (rStep R ⟨ep, 1, sn, fl, tm, none⟩ W st).vl false, WO W]) := by
  unfold rStep
  dsimp only
  rw [if_pos rfl]
  by_cases g : liW (W.getD 7 0) = true ∧ epW (W.getD 7 0) = ep
  · rw [if_neg (fun q => q g)]
    by_cases g3 : geW (W.getD 7 0) = 0
    · rw [if_pos g3]; exact rEmpty0_fn h1 h2 hl hs hs' hw0 hw1 g.1 g.2 g3
    · rw [if_neg g3]; exact rLook0_fn h1 h2 hl hs hs' hw0 hw1 g.1 g.2 g3
  · rw [if_pos g]; exact rGone0_fn h1 h2 hl hs hs' hw0 hw1 g
theorem rLk1_fn : Gives Tryz.prog 14 [.ptr 0 0, .ptr 1 0] [.obj (rdO R ep 1 sn fl 0 tm .niliface (.sbuf 3 1 0 l.length)), AOx 2 W st kd wd vl ch, WO W, wdE l]
    (Is (match (rStep R ⟨ep, 1, sn, fl, tm, some l⟩ W st).k with | 0 => .ff | _ => .tt) [.obj (rdO R ep (rStep R ⟨ep, 1, sn, fl, tm, some l⟩ W st).nx (rStep R ⟨ep, 1, sn, fl, tm, some l⟩ W st).sn (rStep R ⟨ep, 1, sn, fl, tm, some l⟩ W st).fl 0 (rStep R ⟨ep, 1, sn, fl, tm, some l⟩ W st).tm (match (rStep R ⟨ep, 1, sn, fl, tm, some l⟩ W st).k with | 0 => .niliface | _ => erO (rStep R ⟨ep, 1, sn, fl, tm, some l⟩ W st).c) .nilslice),
      AOx 2 W (st + 1) 1 (rStep R ⟨ep, 1, sn, fl, tm, some l⟩ W st).wd (rStep R ⟨ep, 1, sn, fl, tm, some l⟩ W st).vl false, WO W, wdE l]) := by
  unfold rStep
  dsimp only
  rw [if_pos rfl]
  by_cases g : liW (W.getD 7 0) = true ∧ epW (W.getD 7 0) = ep
  · rw [if_neg (fun q => q g)]
    by_cases g3 : geW (W.getD 7 0) = 0
    · rw [if_pos g3]; exact rEmpty1_fn h1 h2 hl hs hs' hw0 hw1 g.1 g.2 g3
    · rw [if_neg g3]; exact rLook1_fn h1 h2 hl hs hs' hw0 hw1 g.1 g.2 g3
  · rw [if_pos g]; exact rGone1_fn h1 h2 hl hs hs' hw0 hw1 g
theorem rCl_fn (ok : ROk R ⟨ep, 4, sn, fl, tm, some l⟩) : Gives Tryz.prog 14 [.ptr 0 0, .ptr 1 0] [.obj (rdO R ep 4 sn fl 0 tm .niliface (.sbuf 3 1 0 l.length)), AOx 2 W st kd wd vl ch, WO W, wdE l]
    (Is (match (rStep R ⟨ep, 4, sn, fl, tm, some l⟩ W st).k with | 4 => .ff | _ => .tt) [.obj (rdO R ep (rStep R ⟨ep, 4, sn, fl, tm, some l⟩ W st).nx (rStep R ⟨ep, 4, sn, fl, tm, some l⟩ W st).sn (rStep R ⟨ep, 4, sn, fl, tm, some l⟩ W st).fl 0 (rStep R ⟨ep, 4, sn, fl, tm, some l⟩ W st).tm (match (rStep R ⟨ep, 4, sn, fl, tm, some l⟩ W st).k with | 5 => erO (rStep R ⟨ep, 4, sn, fl, tm, some l⟩ W st).c | _ => .niliface) (.sbuf 3 1 0 l.length)),
      AOx 2 W (st + 1) 1 (rStep R ⟨ep, 4, sn, fl, tm, some l⟩ W st).wd (rStep R ⟨ep, 4, sn, fl, tm, some l⟩ W st).vl false, WO W, wdE l]) := by
  have f0 : 0 ≤ fl := ok.fl0
  have f1 : fl < R := ok.fl1
  have n0 : 0 ≤ sn := ok.sn0
  have n1 : sn < 18446744073709551616 := ok.sn1
  unfold rStep
  dsimp only
  rw [if_neg (by decide), if_neg (by decide)]
  by_cases g : stillB sn (W.getD 7 0) = true
  · rw [if_pos g]; exact rStill_fn h1 h2 hl hs hs' n0 n1 hw0 hw1 g
  · rw [if_neg g]
    by_cases g5 : fl + 1 = R
    · rw [if_pos g5]; exact rFailL_fn h1 h2 hl hs hs' n0 n1 hw0 hw1 f0 g5 (by simpa using g)
    · rw [if_neg g5]; exact rFail_fn h1 h2 hl hs hs' n0 n1 hw0 hw1 f0 (by omega) (by simpa using g)
end
def rdA (H : List HE) (h : Nat) : Option (Int × Int × Int × Int × Int × Int × Int × SV × SV × List Prop) :=
  match getH H h with
  | some (.cells [x0, x1, x2, x3, x4, x5, x6, x7, .int .i64 R, x9, .int .i64 ep, .int .i64 nx, .int .u64 sn, .int .i64 fl, .int .i64 cm, .int .i64 tm, e, ws] ty) => some (R, ep, nx, sn, fl, cm, tm, e, ws, [SO.cells [x0, x1, x2, x3, x4, x5, x6, x7, .int .i64 R, x9, .int .i64 ep, .int .i64 nx, .int .u64 sn, .int .i64 fl, .int .i64 cm, .int .i64 tm, e, ws] ty = rdO R ep nx sn fl cm tm e ws])
  | _ => none
theorem rdA_get {H : List HE} {h : Nat} {R ep nx sn fl cm tm : Int} {e ws : SV} {ob : List Prop} (hs : rdA H h = some (R, ep, nx, sn, fl, cm, tm, e, ws, ob)) (ho : AllP ob) : getH H h = some (rdO R ep nx sn fl cm tm e ws) := by
  unfold rdA at hs
  split at hs
  · rename_i hg
    simp only [Option.some.injEq, Prod.mk.injEq] at hs
    obtain ⟨rfl, rfl, rfl, rfl, rfl, rfl, rfl, rfl, rfl, rfl⟩ := hs
    have q := ho _ (List.mem_cons_self ..)
    rw [hg, q]
  · simp at hs
theorem step3r_ok {fid : Nat} {o o' : SO} {W : List Int} {st kd wd vl st' kd' wd' vl' : Int} {ch ch' : Bool} {dn : SV} (hc : Gives Tryz.prog fid [.ptr 0 0, .ptr 1 0] [.obj o, AOx 2 W st kd wd vl ch, WO W] (Is dn [.obj o', AOx 2 W st' kd' wd' vl' ch', WO W]))
    (ho : ∀ σ, o.ren σ = o) (ho' : ∀ σ, o'.ren σ = o') (hd : ∀ σ, dn.ren σ = dn) (hok : okHs (there [.obj o, AOx 2 W st kd wd vl ch, WO W]) [.obj o, AOx 2 W st kd wd vl ch, WO W] = true)
    {H : List HE} {h ha hw : Nat} (hga : getH H ha = some (.cells [.slice hw 0 W.length W.length, .int .i64 st, .int .i64 kd, .int .i64 wd, .int .u64 vl, .bool ch, .niliface] 115)) (hgw : getH H hw = some (.ints .u64 W 39)) (hg : getH H h = some o) (hnd : nodupN [h, ha, hw] = true) :
    Gives Tryz.prog fid [.ptr h 0, .ptr ha 0] H (Is dn (((H.set h (.obj o')).set ha (AOx hw W st' kd' wd' vl' ch')).set hw (WO W))) := by
  have := frame3 (N := []) (H := H) (h0 := h) (h1 := ha) (h2 := hw) (ags := [.ptr h 0, .ptr ha 0]) ⟨_, hTE⟩ hc rfl rfl hok hnd (by rw [ho]; exact hg) hga hgw rfl
  rw [hd, ho'] at this
  simp only [List.map_nil, List.append_nil] at this
  exact this
/-- A read's step as a row: κ tells of which kind it is, r what comes of it. -/
def rStG (κ : Nat) (r : RR) : Hx.Spec := fun args H => match args with
  | [.ptr h 0, .ptr ha 0] => match rdA H h, arP H ha with
    | some (R, ep, nx, sn, fl, cm, tm, e, ws, ob1), some (hw, ⟨W, st, _kd, _wd, _vl, _ch⟩, ob2) => match ws with
      | .nilslice => match nodupN [h, ha, hw], nums[H.length]? with
        | true, some n0 => match κ with
          | 3 => some ((e = .niliface) :: (cm = 0) :: (ROk R ⟨ep, nx, sn, fl, tm, none⟩) :: (1 ≤ R) :: (R ≤ 8) :: (16 ≤ W.length) :: (0 ≤ st) :: (st < 1000000) :: (0 ≤ W.getD 7 0) :: (W.getD 7 0 < 18446744073709551616) :: (rStep R ⟨ep, nx, sn, fl, tm, none⟩ W st = r) :: (r.k = 3) :: ob1 ++ ob2, .ff,
              (((H.set h (.obj (rdO R ep r.nx r.sn r.fl 0 r.tm .niliface (.sbuf n0 1 0 1)))).set ha (AOx hw W (st + 1) 1 r.wd r.vl false)).set hw (WO W)) ++ [wdE [r.vl]])
          | _ => some ((e = .niliface) :: (cm = 0) :: (ROk R ⟨ep, nx, sn, fl, tm, none⟩) :: (1 ≤ R) :: (R ≤ 8) :: (16 ≤ W.length) :: (0 ≤ st) :: (st < 1000000) :: (0 ≤ W.getD 7 0) :: (W.getD 7 0 < 18446744073709551616) :: (rStep R ⟨ep, nx, sn, fl, tm, none⟩ W st = r) :: (r.k = κ ∧ κ ≤ 1) :: ob1 ++ ob2, (match κ with | 0 => .ff | _ => .tt),
              (((H.set h (.obj (rdO R ep r.nx r.sn r.fl 0 r.tm (match κ with | 0 => .niliface | _ => erO r.c) .nilslice))).set ha (AOx hw W (st + 1) 1 r.wd r.vl false)).set hw (WO W)))
        | _, _ => none
      | .sbuf hl 1 0 n => match getH H hl with
        | some (.buf .u64 l 1 39) => match nodupN [h, ha, hw, hl], nums[H.length]? with
          | true, some n0 => match κ with
            | 0 => some ((e = .niliface) :: (cm = 0) :: (ROk R ⟨ep, nx, sn, fl, tm, some l⟩) :: (1 ≤ R) :: (R ≤ 8) :: (16 ≤ W.length) :: (0 ≤ st) :: (st < 1000000) :: (0 ≤ W.getD 7 0) :: (W.getD 7 0 < 18446744073709551616) :: (rStep R ⟨ep, nx, sn, fl, tm, some l⟩ W st = r) :: (r.k = 0) :: (n = l.length) :: ob1 ++ ob2, .ff,
                ((((H.set h (.obj (rdO R ep r.nx r.sn r.fl 0 r.tm .niliface .nilslice))).set ha (AOx hw W (st + 1) 1 r.wd r.vl false)).set hw (WO W)).set hl (wdE l)))
            | 1 => some ((e = .niliface) :: (cm = 0) :: (ROk R ⟨ep, nx, sn, fl, tm, some l⟩) :: (1 ≤ R) :: (R ≤ 8) :: (16 ≤ W.length) :: (0 ≤ st) :: (st < 1000000) :: (0 ≤ W.getD 7 0) :: (W.getD 7 0 < 18446744073709551616) :: (rStep R ⟨ep, nx, sn, fl, tm, some l⟩ W st = r) :: (r.k = 1) :: (n = l.length) :: ob1 ++ ob2, .tt,
                ((((H.set h (.obj (rdO R ep r.nx r.sn r.fl 0 r.tm (erO r.c) .nilslice))).set ha (AOx hw W (st + 1) 1 r.wd r.vl false)).set hw (WO W)).set hl (wdE l)))
            | 3 => some ((e = .niliface) :: (cm = 0) :: (ROk R ⟨ep, nx, sn, fl, tm, some l⟩) :: (1 ≤ R) :: (R ≤ 8) :: (16 ≤ W.length) :: (0 ≤ st) :: (st < 1000000) :: (0 ≤ W.getD 7 0) :: (W.getD 7 0 < 18446744073709551616) :: (rStep R ⟨ep, nx, sn, fl, tm, some l⟩ W st = r) :: (r.k = 3) :: (n = l.length) :: ob1 ++ ob2, .ff,
                ((((H.set h (.obj (rdO R ep r.nx r.sn r.fl 0 r.tm .niliface (.sbuf n0 1 0 (l.length + 1))))).set ha (AOx hw W (st + 1) 1 r.wd r.vl false)).set hw (WO W)).set hl .opq) ++ [wdE (l ++ [r.vl])])
            | _ => some ((e = .niliface) :: (cm = 0) :: (ROk R ⟨ep, nx, sn, fl, tm, some l⟩) :: (1 ≤ R) :: (R ≤ 8) :: (16 ≤ W.length) :: (0 ≤ st) :: (st < 1000000) :: (0 ≤ W.getD 7 0) :: (W.getD 7 0 < 18446744073709551616) :: (rStep R ⟨ep, nx, sn, fl, tm, some l⟩ W st = r) :: (r.k = κ ∧ (κ = 2 ∨ κ = 4 ∨ κ = 5)) :: (n = l.length) :: ob1 ++ ob2, (match κ with | 4 => .ff | _ => .tt),
                ((((H.set h (.obj (rdO R ep r.nx r.sn r.fl 0 r.tm (match κ with | 5 => erO r.c | _ => .niliface) (.sbuf hl 1 0 l.length)))).set ha (AOx hw W (st + 1) 1 r.wd r.vl false)).set hw (WO W)).set hl (wdE l)))
          | _, _ => none
        | _ => none
      | _ => none
    | _, _ => none
  | _ => none
theorem rStG_ok {κ : Nat} {r : RR} {args : List SV} {H : List HE} {ob : List Prop} {V : SV} {L : List HE} (hs : rStG κ r args H = some (ob, V, L)) (ho : AllP ob) : Gives Tryz.prog 14 args H (Is V L) := by
  unfold rStG at hs
  split at hs
  case h_2 => simp at hs
  rename_i _ h ha
  split at hs
  case h_2 => simp at hs
  rename_i _ _ R ep nx sn fl cm tm e ws ob1 hw W st kd wd vl ch ob2 hq hp
  split at hs
  case h_3 => simp at hs
  · split at hs
    case h_2 => simp at hs
    rename_i n0 hnd t0
    have t0' := nums_get _ _ t0
    split at hs
    · simp only [Option.some.injEq, Prod.mk.injEq] at hs
      obtain ⟨rfl, rfl, rfl⟩ := hs
      simp only [AllP, List.cons_append, List.mem_cons, List.mem_append, forall_eq_or_imp] at ho
      obtain ⟨q1, q2, q3, p1, p2, p3, p4, p5, p6, p7, q4, q5, hr⟩ := ho
      subst q1; subst q2; subst t0'
      have g1 := rdA_get hq (fun p hp => hr p (.inl hp))
      obtain ⟨g3, g4⟩ := arP_get hp (fun p hp => hr p (.inr hp))
      have hn : nx = 1 ∨ nx = 3 ∨ nx = 4 := q3.nxc
      have hn3 : nx = 3 := by
        rcases hn with e | e | e
        · have := rk1 (R := R) (W := W) (st := st) (s := ⟨ep, nx, sn, fl, tm, none⟩) e
          rw [q4] at this; omega
        · exact e
        · have := rk4 (R := R) (W := W) (st := st) (s := ⟨ep, nx, sn, fl, tm, none⟩) e
          rw [q4] at this; omega
      subst hn3
      subst q4
      have := frame3 (H := H) (h0 := h) (h1 := ha) (h2 := hw) (ags := [.ptr h 0, .ptr ha 0]) ⟨_, hTE⟩ (rWord0_fn p1 p2 p3 p4 p5 q3.sn0 q3.sn1) rfl rfl rfl hnd g1 g3 g4 rfl
      have e0 : rPos ⟨ep, 3, sn, fl, tm, none⟩ = 8 + 4 * (geW sn % 2) := by simp [rPos, lst]
      unfold rStep
      dsimp only
      rw [if_neg (by decide), if_pos rfl]
      dsimp only
      rw [e0]
      exact this
    · rename_i hκ
      simp only [Option.some.injEq, Prod.mk.injEq] at hs
      obtain ⟨rfl, rfl, rfl⟩ := hs
      simp only [AllP, List.cons_append, List.mem_cons, List.mem_append, forall_eq_or_imp] at ho
      obtain ⟨q1, q2, q3, p1, p2, p3, p4, p5, p6, p7, q4, ⟨q5, q6⟩, hr⟩ := ho
      subst q1; subst q2
      have g1 := rdA_get hq (fun p hp => hr p (.inl hp))
      obtain ⟨g3, g4⟩ := arP_get hp (fun p hp => hr p (.inr hp))
      have hn : nx = 1 ∨ nx = 3 ∨ nx = 4 := q3.nxc
      have hn1 : nx = 1 := by
        rcases hn with e | e | e
        · exact e
        · have := rk3 (R := R) (W := W) (st := st) (s := ⟨ep, nx, sn, fl, tm, none⟩) e
          rw [q4] at this; omega
        · have := rk4 (R := R) (W := W) (st := st) (s := ⟨ep, nx, sn, fl, tm, none⟩) e
          rw [q4] at this; omega
      subst hn1
      have hall := rLk0_fn (ep := ep) (sn := sn) (fl := fl) (tm := tm) (kd := kd) (wd := wd) (vl := vl) (ch := ch) p1 p2 p3 p4 p5 p6 p7
      rw [q4] at hall
      subst q5
      refine step3r_ok hall (fun _ => rfl) (fun σ => ?_) (fun σ => ?_) rfl g3 g4 g1 hnd
      · rcases r.k with _ | k <;> rfl
      · rcases r.k with _ | k <;> rfl
  · rename_i hl n
    split at hs
    case h_2 => simp at hs
    rename_i _ l gl
    split at hs
    case h_2 => simp at hs
    rename_i n0 hnd t0
    have t0' := nums_get _ _ t0
    split at hs
    · simp only [Option.some.injEq, Prod.mk.injEq] at hs
      obtain ⟨rfl, rfl, rfl⟩ := hs
      simp only [AllP, List.cons_append, List.mem_cons, List.mem_append, forall_eq_or_imp] at ho
      obtain ⟨q1, q2, q3, p1, p2, p3, p4, p5, p6, p7, q4, q5, q6, hr⟩ := ho
      subst q1; subst q2; subst q6
      have g1 := rdA_get hq (fun p hp => hr p (.inl hp))
      obtain ⟨g3, g4⟩ := arP_get hp (fun p hp => hr p (.inr hp))
      have hn1 : nx = 1 := by
        rcases (show nx = 1 ∨ nx = 3 ∨ nx = 4 from q3.nxc) with e | e | e
        · exact e
        · have := rk3 (R := R) (W := W) (st := st) (s := ⟨ep, nx, sn, fl, tm, some l⟩) e
          rw [q4] at this; omega
        · have := rk4 (R := R) (W := W) (st := st) (s := ⟨ep, nx, sn, fl, tm, some l⟩) e
          rw [q4] at this; omega
      subst hn1
      have hall := rLk1_fn (ep := ep) (sn := sn) (fl := fl) (tm := tm) (l := l) (kd := kd) (wd := wd) (vl := vl) (ch := ch) p1 p2 p3 p4 p5 p6 p7
      rw [q4, q5] at hall
      exact step4_ok (o := fun x => rdO R ep 1 sn fl 0 tm .niliface (.sbuf x 1 0 l.length)) (o' := fun x => rdO R ep r.nx r.sn r.fl 0 r.tm .niliface .nilslice) hall (fun _ _ => rfl) (fun _ _ => rfl) (fun _ => rfl) rfl g3 g4 g1 gl hnd
    · simp only [Option.some.injEq, Prod.mk.injEq] at hs
      obtain ⟨rfl, rfl, rfl⟩ := hs
      simp only [AllP, List.cons_append, List.mem_cons, List.mem_append, forall_eq_or_imp] at ho
      obtain ⟨q1, q2, q3, p1, p2, p3, p4, p5, p6, p7, q4, q5, q6, hr⟩ := ho
      subst q1; subst q2; subst q6
      have g1 := rdA_get hq (fun p hp => hr p (.inl hp))
      obtain ⟨g3, g4⟩ := arP_get hp (fun p hp => hr p (.inr hp))
      have hn1 : nx = 1 := by
        rcases (show nx = 1 ∨ nx = 3 ∨ nx = 4 from q3.nxc) with e | e | e
        · exact e
        · have := rk3 (R := R) (W := W) (st := st) (s := ⟨ep, nx, sn, fl, tm, some l⟩) e
          rw [q4] at this; omega
        · have := rk4 (R := R) (W := W) (st := st) (s := ⟨ep, nx, sn, fl, tm, some l⟩) e
          rw [q4] at this; omega
      subst hn1
      have hall := rLk1_fn (ep := ep) (sn := sn) (fl := fl) (tm := tm) (l := l) (kd := kd) (wd := wd) (vl := vl) (ch := ch) p1 p2 p3 p4 p5 p6 p7
      rw [q4, q5] at hall
      exact step4_ok (o := fun x => rdO R ep 1 sn fl 0 tm .niliface (.sbuf x 1 0 l.length)) (o' := fun x => rdO R ep r.nx r.sn r.fl 0 r.tm (erO r.c) .nilslice) hall (fun _ _ => rfl) (fun _ _ => rfl) (fun _ => rfl) rfl g3 g4 g1 gl hnd
    · simp only [Option.some.injEq, Prod.mk.injEq] at hs
      obtain ⟨rfl, rfl, rfl⟩ := hs
      simp only [AllP, List.cons_append, List.mem_cons, List.mem_append, forall_eq_or_imp] at ho
      obtain ⟨q1, q2, q3, p1, p2, p3, p4, p5, p6, p7, q4, q5, q6, hr⟩ := ho
      subst q1; subst q2; subst t0'; subst q6
      have g1 := rdA_get hq (fun p hp => hr p (.inl hp))
      obtain ⟨g3, g4⟩ := arP_get hp (fun p hp => hr p (.inr hp))
      have hn3 : nx = 3 := by
        rcases (show nx = 1 ∨ nx = 3 ∨ nx = 4 from q3.nxc) with e | e | e
        · have := rk1 (R := R) (W := W) (st := st) (s := ⟨ep, nx, sn, fl, tm, some l⟩) e
          rw [q4] at this; omega
        · exact e
        · have := rk4 (R := R) (W := W) (st := st) (s := ⟨ep, nx, sn, fl, tm, some l⟩) e
          rw [q4] at this; omega
      subst hn3
      subst q4
      have := frame4q (H := H) (h0 := h) (h1 := ha) (h2 := hw) (h3 := hl) (ags := [.ptr h 0, .ptr ha 0]) ⟨_, hTE⟩ (rWord1_fn p1 p2 p3 p4 p5 q3.sn0 q3.sn1 (q3.w3 rfl)) rfl rfl rfl hnd g1 g3 g4 gl rfl
      unfold rStep
      dsimp only
      rw [if_neg (by decide), if_pos rfl]
      exact this
    · simp only [Option.some.injEq, Prod.mk.injEq] at hs
      obtain ⟨rfl, rfl, rfl⟩ := hs
      simp only [AllP, List.cons_append, List.mem_cons, List.mem_append, forall_eq_or_imp] at ho
      obtain ⟨q1, q2, q3, p1, p2, p3, p4, p5, p6, p7, q4, ⟨q5, q7⟩, q6, hr⟩ := ho
      subst q1; subst q2; subst q6
      have g1 := rdA_get hq (fun p hp => hr p (.inl hp))
      obtain ⟨g3, g4⟩ := arP_get hp (fun p hp => hr p (.inr hp))
      have hn4 : nx = 4 := by
        rcases (show nx = 1 ∨ nx = 3 ∨ nx = 4 from q3.nxc) with e | e | e
        · have := rk1 (R := R) (W := W) (st := st) (s := ⟨ep, nx, sn, fl, tm, some l⟩) e
          rw [q4] at this; omega
        · have := rk3 (R := R) (W := W) (st := st) (s := ⟨ep, nx, sn, fl, tm, some l⟩) e
          rw [q4] at this; omega
        · exact e
      subst hn4
      have hall := rCl_fn (kd := kd) (wd := wd) (vl := vl) (ch := ch) p1 p2 p3 p4 p5 p6 p7 q3
      rw [q4] at hall
      subst q5
      refine step4_ok (o := fun x => rdO R ep 4 sn fl 0 tm .niliface (.sbuf x 1 0 l.length)) (o' := fun x => rdO R ep r.nx r.sn r.fl 0 r.tm (match r.k with | 5 => erO r.c | _ => .niliface) (.sbuf x 1 0 l.length)) hall (fun _ _ => rfl) (fun σ x => ?_) (fun σ => ?_) rfl g3 g4 g1 gl hnd
      · rcases q7 with q | q | q <;> rw [q] <;> rfl
      · rcases q7 with q | q | q <;> rw [q] <;> rfl
end Go.Proofs.YtmghcelohnlceaaGreatDoor
