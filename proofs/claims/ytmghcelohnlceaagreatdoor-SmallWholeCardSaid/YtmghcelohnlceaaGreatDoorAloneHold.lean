/- Who holds the topic; how long a run that goes on alone may take. -/
import Derived.Test.YtmghcelohnlceaaGreatDoorFailsLaw
namespace Go.Proofs.YtmghcelohnlceaaGreatDoor
open Go Go.Hx
set_option maxRecDepth 8000
/-- One writer holds the topic at most, and what the control word is then. -/
structure MI (W : List Int) (c0 c1 : Option WS) : Prop where
  h0 : ∀ s, c0 = some s → 3 ≤ s.nx → W.getD 7 0 = busyW s.sn
  h1 : ∀ s, c1 = some s → 3 ≤ s.nx → W.getD 7 0 = busyW s.sn
  ex : ∀ s t, c0 = some s → c1 = some t → 3 ≤ s.nx → 3 ≤ t.nx → False
theorem MI.swap {W : List Int} {c0 c1 : Option WS} (m : MI W c0 c1) : MI W c1 c0 := ⟨m.h1, m.h0, fun s t a b c d => m.ex t s b a d c⟩
theorem MI.words {W W' : List Int} {c0 c1 : Option WS} (m : MI W c0 c1) (h : W'.getD 7 0 = W.getD 7 0) : MI W' c0 c1 := ⟨fun s a b => h.trans (m.h0 s a b), fun s a b => h.trans (m.h1 s a b), m.ex⟩
theorem MI.drop {W : List Int} {c0 c1 : Option WS} (m : MI W c0 c1) : MI W none c1 := ⟨fun s a => (by cases a), m.h1, fun s t a => (by cases a)⟩
theorem bu_busy {w : Int} (w0 : 0 ≤ w) (w1 : w < 18446744073709551616) : buW (busyW w) = true := by rw [busyW, bu_pk (fitW w0 w1)]
theorem ge_busy {w : Int} (w0 : 0 ≤ w) (w1 : w < 18446744073709551616) : geW (busyW w) = geW w := by rw [busyW, ge_pk (fitW w0 w1)]
theorem li_busy {w : Int} (w0 : 0 ≤ w) (w1 : w < 18446744073709551616) : liW (busyW w) = liW w := by rw [busyW, li_pk (fitW w0 w1)]
theorem ep_busy {w : Int} (w0 : 0 ≤ w) (w1 : w < 18446744073709551616) : epW (busyW w) = epW w := by rw [busyW, ep_pk (fitW w0 w1)]
section
variable {R : Int} {s : WS} {W : List Int} {st : Int}
/-- What becomes of the control word, and who holds it. -/
structure WHold (s : WS) (W : List Int) (r : WR) : Prop where
  sn : 2 ≤ s.nx → r.sn = s.sn
  up : r.k = 0 → 3 ≤ r.nx → (s.nx = 2 ∧ W.getD 7 0 = s.sn ∧ r.W.getD 7 0 = busyW s.sn) ∨ (s.nx = 3 ∧ r.W.getD 7 0 = W.getD 7 0)
  lo : r.k = 0 → r.nx < 3 → r.W = W ∧ s.nx ≤ 2
  er : r.k = 1 → r.W = W ∧ s.nx ≤ 2
  cw : r.k = 2 → s.nx = 4 ∧ r.W.getD 7 0 = writW (busyW s.sn)
theorem wHold (ok : WOk R s) (hl : 16 ≤ W.length) : WHold s W (wStep R s W st) := by
  obtain ⟨ep, nx, sn, fl, tm, i, hd, l⟩ := s
  have x0 : 1 ≤ nx := ok.nx0
  have x1 : nx ≤ 4 := ok.nx1
  have hn : nx = 1 ∨ nx = 2 ∨ nx = 3 ∨ nx = 4 := by omega
  unfold wStep
  dsimp only
  rcases hn with rfl | rfl | rfl | rfl
  · rw [if_pos rfl]
    split
    · exact ⟨fun q => by simp at q, fun q => by simp at q, fun q => by simp at q, fun _ => ⟨rfl, by dsimp only; decide⟩, fun q => by simp at q⟩
    · split
      · exact ⟨fun q => by simp at q, fun q => by simp at q, fun q => by simp at q, fun _ => ⟨rfl, by dsimp only; decide⟩, fun q => by simp at q⟩
      · split
        · split
          · exact ⟨fun q => by simp at q, fun q => by simp at q, fun q => by simp at q, fun _ => ⟨rfl, by dsimp only; decide⟩, fun q => by simp at q⟩
          · exact ⟨fun q => by simp at q, fun _ q => by simp at q, fun _ _ => ⟨rfl, by dsimp only; decide⟩, fun q => by simp at q, fun q => by simp at q⟩
        · exact ⟨fun q => by simp at q, fun _ q => by simp at q, fun _ _ => ⟨rfl, by dsimp only; decide⟩, fun q => by simp at q, fun q => by simp at q⟩
  · rw [if_neg (by decide), if_pos rfl]
    split
    · rename_i g
      exact ⟨fun _ => rfl, fun _ _ => .inl ⟨rfl, g, by dsimp only; rw [set_getD, if_pos ⟨rfl, by omega⟩]⟩, fun _ q => by simp at q, fun q => by simp at q, fun q => by simp at q⟩
    · split
      · exact ⟨fun _ => rfl, fun q => by simp at q, fun q => by simp at q, fun _ => ⟨rfl, by dsimp only; decide⟩, fun q => by simp at q⟩
      · exact ⟨fun _ => rfl, fun _ q => by simp at q, fun _ _ => ⟨rfl, by dsimp only; decide⟩, fun q => by simp at q, fun q => by simp at q⟩
  · rw [if_neg (by decide), if_neg (by decide), if_pos rfl]
    have i0 : 0 ≤ i := ok.i0
    refine ⟨fun _ => rfl, fun _ _ => .inr ⟨rfl, ?_⟩, fun _ q => ?_, fun q => by simp at q, fun q => by simp at q⟩
    · show (W.set (8 + 4 * ((geW sn + 1) % 2) + i).toNat (l.getD i.toNat 0)).getD 7 0 = W.getD 7 0
      rw [set_getD, if_neg (fun q => by omega)]
    · exfalso
      have q : (if i + 1 = (l.length : Int) then (4 : Int) else 3) < 3 := q
      split at q <;> omega
  · rw [if_neg (by decide), if_neg (by decide), if_neg (by decide)]
    exact ⟨fun _ => rfl, fun q => by simp at q, fun q => by simp at q, fun q => by simp at q, fun _ => ⟨rfl, by dsimp only; rw [set_getD, if_pos ⟨rfl, by omega⟩]⟩⟩
/-- A writer goes on. -/
theorem MI.on {c1 : Option WS} {r : WR} (m : MI W (some s) c1) (ok : WOk R s) (ok1 : okO (WOk R) c1) (hh : WHold s W r) (hk : r.k = 0) : MI r.W (some ⟨s.ep, r.nx, r.sn, r.fl, r.tm, r.i, r.hd, s.l⟩) c1 := by
  by_cases hn : 3 ≤ r.nx
  · rcases hh.up hk hn with ⟨g1, g2, g3⟩ | ⟨g1, g2⟩
    · have e := hh.sn (by omega)
      have no : ∀ t, c1 = some t → 3 ≤ t.nx → False := fun t ht hx => by
        have q := m.h1 t ht hx
        subst ht
        have o1 : WOk R t := ok1
        have b := bu_busy o1.sn0 o1.sn1
        rw [← q, g2, (ok.lv (by omega)).2.2.1] at b
        cases b
      exact ⟨fun s' hs _ => by cases hs; rw [g3]; dsimp only; rw [e], fun t ht hx => (no t ht hx).elim, fun _ t _ ht _ hx => no t ht hx⟩
    · have e := hh.sn (by omega)
      exact ⟨fun s' hs _ => by cases hs; rw [g2]; dsimp only; rw [e]; exact m.h0 s rfl (by omega), fun t ht hx => g2.trans (m.h1 t ht hx), fun _ t _ ht _ hx => m.ex s t rfl ht (by omega) hx⟩
  · obtain ⟨g1, _⟩ := hh.lo hk (by omega)
    rw [g1]
    exact ⟨fun s' hs q => by cases hs; exact absurd q hn, m.h1, fun s' t hs ht q _ => by cases hs; exact absurd q hn⟩
/-- A writer is done. -/
theorem MI.off {c1 : Option WS} {r : WR} (m : MI W (some s) c1) (hh : WHold s W r) (hk : r.k = 1 ∨ r.k = 2) : MI r.W none c1 := by
  rcases hk with q | q
  · rw [(hh.er q).1]; exact m.drop
  · obtain ⟨g1, _⟩ := hh.cw q
    exact ⟨fun s a => (by cases a), fun t ht hx => (m.ex s t rfl ht (by omega) hx).elim, fun s t a => (by cases a)⟩
/-- A writer begins. -/
theorem MI.new {c1 : Option WS} {n : WS} (m : MI W none c1) (hn : n.nx = 1) : MI W (some n) c1 :=
  ⟨fun s hs q => by cases hs; omega, m.h1, fun s t hs _ q _ => by cases hs; omega⟩
/-- Nobody holds it. -/
theorem MI.idle {W' : List Int} {c0 c1 : Option WS} (o0 : okO (WOk R) c0) (o1 : okO (WOk R) c1) (h0 : hdO c0 = false) (h1 : hdO c1 = false) : MI W' c0 c1 := by
  have no : ∀ {c : Option WS}, okO (WOk R) c → hdO c = false → ∀ s, c = some s → 3 ≤ s.nx → False := fun ho hd s hs hx => by
    subst hs
    have o : WOk R s := ho
    have q : s.hd = false := hd
    rw [o.hdv] at q
    simp at q
    omega
  exact ⟨fun s hs hx => (no o0 h0 s hs hx).elim, fun s hs hx => (no o1 h1 s hs hx).elim, fun s t hs _ hx _ => no o0 h0 s hs hx⟩
end
theorem bk_hd {s n : Int} {h0 h1 : Bool} (h : bkB s n h0 h1 = true) : h0 = false ∧ h1 = false := by
  unfold bkB at h
  cases h0 <;> cases h1 <;> simp at h ⊢
/-! How long it may take alone. -/
/-- A write's steps that are left, if nobody else does anything. -/
def muB (R : Int) (fl : Int) (len : Nat) (b : Bool) : Int := bif b then R - fl else 3 + (len : Int)
def muW (R : Int) (s : WS) (W : List Int) : Int :=
  if s.nx = 1 then muB R s.fl s.l.length (buW (W.getD 7 0))
  else if s.nx = 2 then (if W.getD 7 0 = s.sn then 2 + (s.l.length : Int) else if s.fl + 1 = R then 1 else 1 + muB R (s.fl + 1) s.l.length (buW (W.getD 7 0)))
  else if s.nx = 3 then 1 + ((s.l.length : Int) - s.i) else 1
section
variable {R : Int} {s : WS} {W : List Int} {st : Int}
theorem mu_pos (ok : WOk R s) : 1 ≤ muW R s W := by
  obtain ⟨ep, nx, sn, fl, tm, i, hd, l⟩ := s
  have f1 : fl < R := ok.fl1
  have i1 : nx ≤ 3 → i < (l.length : Int) := ok.i1
  unfold muW muB
  dsimp only
  cases buW (W.getD 7 0) <;> dsimp only [cond] <;> repeat' split
  all_goals (first | omega | (have := i1 (by omega); omega))
theorem mu_max (ok : WOk R s) : muW R s W ≤ 8 * R := by
  obtain ⟨ep, nx, sn, fl, tm, i, hd, l⟩ := s
  have f0 : 0 ≤ fl := ok.fl0
  have f1 : fl < R := ok.fl1
  have l1 : l.length ≤ 4 := ok.l1
  have i0 : 0 ≤ i := ok.i0
  unfold muW muB
  dsimp only
  cases buW (W.getD 7 0) <;> dsimp only [cond] <;> repeat' split
  all_goals omega
theorem mu_dec (ok : WOk R s) (hk : (wStep R s W st).k = 0) : muW R ⟨s.ep, (wStep R s W st).nx, (wStep R s W st).sn, (wStep R s W st).fl, (wStep R s W st).tm, (wStep R s W st).i, (wStep R s W st).hd, s.l⟩ (wStep R s W st).W + 1 ≤ muW R s W := by
  obtain ⟨ep, nx, sn, fl, tm, i, hd, l⟩ := s
  have x0 : 1 ≤ nx := ok.nx0
  have x1 : nx ≤ 4 := ok.nx1
  have f1 : fl < R := ok.fl1
  have hn : nx = 1 ∨ nx = 2 ∨ nx = 3 ∨ nx = 4 := by omega
  unfold wStep at hk ⊢
  dsimp only at hk ⊢
  rcases hn with rfl | rfl | rfl | rfl
  · rw [if_pos rfl] at hk ⊢
    by_cases g : liW (W.getD 7 0) = true ∧ epW (W.getD 7 0) = ep
    · rw [if_neg (fun q => q g)] at hk ⊢
      by_cases g3 : geW (W.getD 7 0) = 2147483647
      · rw [if_pos g3] at hk; simp at hk
      · rw [if_neg g3] at hk ⊢
        by_cases g4 : buW (W.getD 7 0) = true
        · rw [if_pos g4] at hk ⊢
          by_cases g5 : fl + 1 = R
          · rw [if_pos g5] at hk; simp at hk
          · rw [if_neg g5]
            simp [-List.getD_eq_getElem?_getD, muW, muB, g4]
            omega
        · rw [if_neg g4]
          have g4' : buW (W.getD 7 0) = false := by simpa using g4
          simp [-List.getD_eq_getElem?_getD, muW, muB, g4']
          omega
    · rw [if_pos g] at hk; simp at hk
  · rw [if_neg (by decide), if_pos rfl] at hk ⊢
    have iz : i = 0 := ok.iz (by show (2 : Int) ≤ 2; decide)
    by_cases g : W.getD 7 0 = sn
    · rw [if_pos g]
      subst iz
      unfold muW
      simp only [g]
      simp [-List.getD_eq_getElem?_getD]
      omega
    · rw [if_neg g] at hk ⊢
      by_cases g5 : fl + 1 = R
      · rw [if_pos g5] at hk; simp at hk
      · rw [if_neg g5]
        unfold muW
        simp only [g, g5]
        simp [-List.getD_eq_getElem?_getD]
        omega
  · rw [if_neg (by decide), if_neg (by decide), if_pos rfl]
    have i1 : i < (l.length : Int) := ok.i1 (by show (3 : Int) ≤ 3; decide)
    unfold muW
    dsimp only
    by_cases c : i + 1 = (l.length : Int)
    · simp [-List.getD_eq_getElem?_getD, c]; omega
    · simp [-List.getD_eq_getElem?_getD, c]; omega
  · rw [if_neg (by decide), if_neg (by decide), if_neg (by decide)] at hk
    simp at hk
end
/-- A read's steps that are left, if nobody else does anything. -/
def muR (R : Int) (s : RS) (W : List Int) : Int :=
  if s.nx = 1 then 6
  else (if s.nx = 3 then 5 - ((lst s.o).length : Int) else 1) + (if stillB s.sn (W.getD 7 0) = true then 0 else if s.fl + 1 = R then 0 else 6)
section
variable {R : Int} {s : RS} {W : List Int} {st : Int}
theorem mr_pos (ok : ROk R s) : 1 ≤ muR R s W := by
  obtain ⟨ep, nx, sn, fl, tm, o⟩ := s
  have w3 : nx = 3 → (lst o).length < 4 := ok.w3
  unfold muR
  dsimp only
  repeat' split
  all_goals (first | omega | (have := w3 (by omega); omega))
theorem mr_max (ok : ROk R s) : muR R s W ≤ 8 * R := by
  obtain ⟨ep, nx, sn, fl, tm, o⟩ := s
  have f0 : 0 ≤ fl := ok.fl0
  have f1 : fl < R := ok.fl1
  unfold muR
  dsimp only
  repeat' split
  all_goals omega
theorem mr_dec (ok : ROk R s) (w0 : 0 ≤ W.getD 7 0) (w1 : W.getD 7 0 < 18446744073709551616) (hk : (rStep R s W st).k = 0 ∨ (rStep R s W st).k = 3 ∨ (rStep R s W st).k = 4) : muR R ⟨s.ep, (rStep R s W st).nx, (rStep R s W st).sn, (rStep R s W st).fl, (rStep R s W st).tm, (rStep R s W st).o⟩ W + 1 ≤ muR R s W := by
  have aft := rAft (st := st) ok w0 w1
  generalize rStep R s W st = r at *
  rcases hk with hk | hk | hk
  · obtain ⟨g1, g2, g3, g4, g5⟩ := aft.lk hk
    have okn := (aft.go (.inl hk)).lv (by dsimp only; omega)
    have hst : stillB r.sn (W.getD 7 0) = true := by rw [← g3]; exact still_self okn.1
    unfold muR
    simp [-List.getD_eq_getElem?_getD, g1, g5, hst, g2, lst]
  · obtain ⟨g1, g2, g3, g4, g5, g6, _⟩ := aft.wd hk
    have okn := aft.go (.inr (.inl hk))
    unfold muR
    simp only [g1, g2, g3, g6]
    have hl : (lst (some (lst s.o ++ [r.vl]))).length = (lst s.o).length + 1 := by simp [lst]
    rcases g4 with q | q
    · rw [q, hl]
      simp [-List.getD_eq_getElem?_getD]
      omega
    · have q4 := okn.w4 q
      rw [g6] at q4
      rw [q]
      rw [hl] at q4
      simp [-List.getD_eq_getElem?_getD]
      omega
  · obtain ⟨g1, g2, g3, g4⟩ := aft.fa (.inl hk)
    have g5 := aft.f4 hk
    have okn := (aft.go (.inr (.inr hk))).fl1
    have okn : r.fl < R := okn
    unfold muR
    have hne : ¬ s.fl + 1 = R := by omega
    simp [-List.getD_eq_getElem?_getD, g1, g5, g2, hne]
end
end Go.Proofs.YtmghcelohnlceaaGreatDoor

/- How runs end. -/
namespace Go.Proofs.YtmghcelohnlceaaGreatDoor
open Go Go.Hx
set_option maxRecDepth 8000
section
variable {R : Int} {s : WS} {W : List Int} {st : Int}
/-- How a write ends. -/
theorem wEnd (ok : WOk R s) : ((wStep R s W st).k ≠ 0 → (wStep R s W st).nx = 0) ∧ ((wStep R s W st).k = 1 → (wStep R s W st).c = 22 ∨ (wStep R s W st).c = 17 ∨ (wStep R s W st).c = 16 ∧ geW (W.getD 7 0) = 2147483647) := by
  obtain ⟨ep, nx, sn, fl, tm, i, hd, l⟩ := s
  have x0 : 1 ≤ nx := ok.nx0
  have x1 : nx ≤ 4 := ok.nx1
  have hn : nx = 1 ∨ nx = 2 ∨ nx = 3 ∨ nx = 4 := by omega
  unfold wStep
  dsimp only
  rcases hn with rfl | rfl | rfl | rfl
  · rw [if_pos rfl]
    by_cases g : liW (W.getD 7 0) = true ∧ epW (W.getD 7 0) = ep
    · rw [if_neg (fun q => q g)]
      by_cases g3 : geW (W.getD 7 0) = 2147483647
      · rw [if_pos g3]; exact ⟨fun _ => rfl, fun _ => .inr (.inr ⟨rfl, g3⟩)⟩
      · rw [if_neg g3]
        by_cases g4 : buW (W.getD 7 0) = true
        · rw [if_pos g4]
          by_cases g5 : fl + 1 = R
          · rw [if_pos g5]; exact ⟨fun _ => rfl, fun _ => .inr (.inl rfl)⟩
          · rw [if_neg g5]; exact ⟨fun q => absurd rfl q, fun q => by simp at q⟩
        · rw [if_neg g4]; exact ⟨fun q => absurd rfl q, fun q => by simp at q⟩
    · rw [if_pos g]; exact ⟨fun _ => rfl, fun _ => .inl rfl⟩
  · rw [if_neg (by decide), if_pos rfl]
    by_cases g : W.getD 7 0 = sn
    · rw [if_pos g]; exact ⟨fun q => absurd rfl q, fun q => by simp at q⟩
    · rw [if_neg g]
      by_cases g5 : fl + 1 = R
      · rw [if_pos g5]; exact ⟨fun _ => rfl, fun _ => .inr (.inl rfl)⟩
      · rw [if_neg g5]; exact ⟨fun q => absurd rfl q, fun q => by simp at q⟩
  · rw [if_neg (by decide), if_neg (by decide), if_pos rfl]; exact ⟨fun q => absurd rfl q, fun q => by simp at q⟩
  · rw [if_neg (by decide), if_neg (by decide), if_neg (by decide)]; exact ⟨fun _ => rfl, fun q => by simp at q⟩
/-- If another writer holds the topic, a write ends with ErrRetry, or ErrGone. -/
theorem end_held {c1 : Option WS} (m : MI W (some s) c1) (ok : WOk R s) (ok1 : okO (WOk R) c1) (hl : 16 ≤ W.length) (hh : hdO c1 = true) : ((wStep R s W st).k = 1 → (wStep R s W st).c = 22 ∨ (wStep R s W st).c = 17) ∧ (wStep R s W st).k ≠ 2 := by
  rcases c1 with _ | t
  · cases hh
  have o1 : WOk R t := ok1
  have ht : 3 ≤ t.nx := by
    have q : t.hd = true := hh
    rw [o1.hdv] at q
    simpa using q
  have w7 := m.h1 t rfl ht
  refine ⟨fun q => ?_, fun q => ?_⟩
  · rcases (wEnd (st := st) (W := W) ok).2 q with e | e | ⟨_, e⟩
    · exact .inl e
    · exact .inr e
    · exfalso
      rw [w7, ge_busy o1.sn0 o1.sn1] at e
      have := (o1.lv (by omega)).2.1
      omega
  · have h := wHold (st := st) ok hl
    obtain ⟨g, _⟩ := h.cw q
    exact m.ex s t rfl rfl (by omega) ht
end
section
variable {R : Int} {s : RS} {W : List Int} {st : Int}
theorem rEnd (ok : ROk R s) : ((rStep R s W st).k = 1 ∨ (rStep R s W st).k = 2 ∨ (rStep R s W st).k = 5) → (rStep R s W st).nx = 0 := by
  obtain ⟨ep, nx, sn, fl, tm, o⟩ := s
  have hn : nx = 1 ∨ nx = 3 ∨ nx = 4 := ok.nxc
  unfold rStep
  dsimp only
  rcases hn with rfl | rfl | rfl
  · rw [if_pos rfl]
    by_cases g : liW (W.getD 7 0) = true ∧ epW (W.getD 7 0) = ep
    · rw [if_neg (fun q => q g)]
      by_cases g3 : geW (W.getD 7 0) = 0
      · rw [if_pos g3]; exact fun _ => rfl
      · rw [if_neg g3]; intro q; simp at q
    · rw [if_pos g]; exact fun _ => rfl
  · rw [if_neg (by decide), if_pos rfl]; intro q; simp at q
  · rw [if_neg (by decide), if_neg (by decide)]
    by_cases g : stillB sn (W.getD 7 0) = true
    · rw [if_pos g]; exact fun _ => rfl
    · rw [if_neg g]
      by_cases g5 : fl + 1 = R
      · rw [if_pos g5]; exact fun _ => rfl
      · rw [if_neg g5]; intro q; simp at q
end
end Go.Proofs.YtmghcelohnlceaaGreatDoor
