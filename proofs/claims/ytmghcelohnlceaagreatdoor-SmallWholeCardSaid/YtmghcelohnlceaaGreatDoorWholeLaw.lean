/- What the topic's buffers hold: the message that was written last, whole. -/
import Derived.Test.YtmghcelohnlceaaGreatDoorAloneHold
namespace Go.Proofs.YtmghcelohnlceaaGreatDoor
open Go Go.Hx
set_option maxRecDepth 8000
/-- A writer's run: its message, and what it has laid of it. -/
structure WL (W m : List Int) (s : WS) (d : Int) : Prop where
  d0 : 1 ≤ d
  d1 : d < m.length
  l : s.l = List.replicate (m.getD d.toNat 0).toNat d
  bf : 3 ≤ s.nx → ∀ j : Nat, (j : Int) < s.i → W.getD (8 + 4 * ((geW s.sn + 1) % 2) + (j : Int)).toNat 0 = d
/-- What is so of the topic: now is the message that was written last (0: none yet), m tells how many words messages have. -/
structure LJ (W : List Int) (c0 c1 : Option WS) (d0 d1 n now : Int) (m : List Int) : Prop where
  li : liW (W.getD 7 0) = true
  nb : buW (W.getD 7 0) = true → (∃ s, c0 = some s ∧ 3 ≤ s.nx) ∨ (∃ s, c1 = some s ∧ 3 ≤ s.nx)
  n0 : 0 ≤ now
  n1 : now < m.length
  nm : (m.length : Int) = n + 1
  mb : ∀ k : Nat, 1 ≤ k → k < m.length → 1 ≤ m.getD k 0 ∧ m.getD k 0 ≤ 4
  g0 : now = 0 ↔ geW (W.getD 7 0) = 0
  bf : now ≠ 0 → ∀ j : Nat, (j : Int) < m.getD now.toNat 0 → W.getD (8 + 4 * (geW (W.getD 7 0) % 2) + (j : Int)).toNat 0 = now
  w0 : ∀ s, c0 = some s → WL W m s d0
  w1 : ∀ s, c1 = some s → WL W m s d1
theorem ge_wr {w : Int} (w0 : 0 ≤ w) (w1 : w < 18446744073709551616) (g : geW w < 2147483647) : geW (writW (busyW w)) = geW w + 1 := by
  have hb := busy_r w0 w1
  have hf := fitW hb.1 hb.2
  have e := ge_busy w0 w1
  unfold writW
  rw [ge_pk ⟨hf.1, hf.2.1, by rw [e]; have := ge_lo (w := w); omega, by rw [e]; omega, hf.2.2.2.2.1, hf.2.2.2.2.2⟩, e]
theorem li_wr {w : Int} (w0 : 0 ≤ w) (w1 : w < 18446744073709551616) (g : geW w < 2147483647) : liW (writW (busyW w)) = liW w := by
  have hb := busy_r w0 w1
  have hf := fitW hb.1 hb.2
  have e := ge_busy w0 w1
  unfold writW
  rw [li_pk ⟨hf.1, hf.2.1, by rw [e]; have := ge_lo (w := w); omega, by rw [e]; omega, hf.2.2.2.2.1, hf.2.2.2.2.2⟩, li_busy w0 w1]
theorem bu_wr {w : Int} (w0 : 0 ≤ w) (w1 : w < 18446744073709551616) (g : geW w < 2147483647) : buW (writW (busyW w)) = false := by
  have hb := busy_r w0 w1
  have hf := fitW hb.1 hb.2
  have e := ge_busy w0 w1
  unfold writW
  rw [bu_pk ⟨hf.1, hf.2.1, by rw [e]; have := ge_lo (w := w); omega, by rw [e]; omega, hf.2.2.2.2.1, hf.2.2.2.2.2⟩]
theorem ep_wr {w : Int} (w0 : 0 ≤ w) (w1 : w < 18446744073709551616) (g : geW w < 2147483647) : epW (writW (busyW w)) = epW w := by
  have hb := busy_r w0 w1
  have hf := fitW hb.1 hb.2
  have e := ge_busy w0 w1
  unfold writW
  rw [ep_pk ⟨hf.1, hf.2.1, by rw [e]; have := ge_lo (w := w); omega, by rw [e]; omega, hf.2.2.2.2.1, hf.2.2.2.2.2⟩, ep_busy w0 w1]
theorem rep_getD {k : Nat} {v : Int} {j : Nat} (h : j < k) : (List.replicate k v).getD j 0 = v := by
  rw [List.getD_eq_getElem?_getD, List.getElem?_replicate, if_pos h]; rfl
section
variable {R : Int} {s : WS} {W m : List Int} {st d0 d1 n now : Int} {c0 c1 : Option WS} {r : WR}
theorem LJ.swap (h : LJ W c0 c1 d0 d1 n now m) : LJ W c1 c0 d1 d0 n now m := ⟨h.li, fun q => (h.nb q).symm, h.n0, h.n1, h.nm, h.mb, h.g0, h.bf, h.w1, h.w0⟩
theorem WL.len (h : WL W m s d0) (mb : ∀ k : Nat, 1 ≤ k → k < m.length → 1 ≤ m.getD k 0 ∧ m.getD k 0 ≤ 4) : (s.l.length : Int) = m.getD d0.toNat 0 := by
  have a := h.d0
  have b := h.d1
  have := mb d0.toNat (by omega) (by omega)
  rw [h.l, List.length_replicate]
  omega
/-- What a step of a write makes of the words. -/
theorem wCase (ok : WOk R s) (hk : (wStep R s W st).k = 0) :
    ((wStep R s W st).W = W ∧ (wStep R s W st).nx < 3) ∨
    (s.nx = 2 ∧ W.getD 7 0 = s.sn ∧ (wStep R s W st).W = W.set 7 (busyW s.sn) ∧ (wStep R s W st).nx = 3 ∧ (wStep R s W st).sn = s.sn ∧ (wStep R s W st).i = s.i) ∨
    (s.nx = 3 ∧ (wStep R s W st).W = W.set (wPos s).toNat (s.l.getD s.i.toNat 0) ∧ 3 ≤ (wStep R s W st).nx ∧ (wStep R s W st).sn = s.sn ∧ (wStep R s W st).i = s.i + 1) := by
  obtain ⟨ep, nx, sn, fl, tm, i, hd, l⟩ := s
  have x0 : 1 ≤ nx := ok.nx0
  have x1 : nx ≤ 4 := ok.nx1
  have hn : nx = 1 ∨ nx = 2 ∨ nx = 3 ∨ nx = 4 := by omega
  unfold wStep at hk ⊢
  dsimp only at hk ⊢
  rcases hn with rfl | rfl | rfl | rfl
  · left
    rw [if_pos rfl] at hk ⊢
    split
    · exact ⟨rfl, by dsimp only; decide⟩
    · split
      · exact ⟨rfl, by dsimp only; decide⟩
      · split
        · split
          · exact ⟨rfl, by dsimp only; decide⟩
          · exact ⟨rfl, by dsimp only; decide⟩
        · exact ⟨rfl, by dsimp only; decide⟩
  · rw [if_neg (by decide), if_pos rfl] at hk ⊢
    split
    · rename_i g
      exact .inr (.inl ⟨rfl, g, rfl, rfl, rfl, rfl⟩)
    · left
      split
      · exact ⟨rfl, by dsimp only; decide⟩
      · exact ⟨rfl, by dsimp only; decide⟩
  · rw [if_neg (by decide), if_neg (by decide), if_pos rfl] at hk ⊢
    refine .inr (.inr ⟨rfl, rfl, ?_, rfl, rfl⟩)
    dsimp only
    split <;> decide
  · rw [if_neg (by decide), if_neg (by decide), if_neg (by decide)] at hk
    simp at hk
theorem wErr (ok : WOk R s) (hk : (wStep R s W st).k = 1) : (wStep R s W st).W = W ∧ s.nx ≤ 2 := by
  obtain ⟨ep, nx, sn, fl, tm, i, hd, l⟩ := s
  have x0 : 1 ≤ nx := ok.nx0
  have x1 : nx ≤ 4 := ok.nx1
  have hn : nx = 1 ∨ nx = 2 ∨ nx = 3 ∨ nx = 4 := by omega
  unfold wStep at hk ⊢
  dsimp only at hk ⊢
  rcases hn with rfl | rfl | rfl | rfl
  · rw [if_pos rfl] at hk ⊢
    split
    · exact ⟨rfl, by decide⟩
    · split
      · exact ⟨rfl, by decide⟩
      · split
        · split
          · exact ⟨rfl, by decide⟩
          · exact ⟨rfl, by decide⟩
        · exact ⟨rfl, by decide⟩
  · rw [if_neg (by decide), if_pos rfl] at hk ⊢
    split
    · rename_i g
      rw [if_pos g] at hk
      simp at hk
    · split
      · exact ⟨rfl, by decide⟩
      · exact ⟨rfl, by decide⟩
  · rw [if_neg (by decide), if_neg (by decide), if_pos rfl] at hk
    simp at hk
  · rw [if_neg (by decide), if_neg (by decide), if_neg (by decide)] at hk
    simp at hk
theorem wFin (ok : WOk R s) (hk : (wStep R s W st).k = 2) : (wStep R s W st).W = W.set 7 (writW (busyW s.sn)) ∧ s.nx = 4 := by
  obtain ⟨ep, nx, sn, fl, tm, i, hd, l⟩ := s
  have x0 : 1 ≤ nx := ok.nx0
  have x1 : nx ≤ 4 := ok.nx1
  have hn : nx = 1 ∨ nx = 2 ∨ nx = 3 ∨ nx = 4 := by omega
  unfold wStep at hk ⊢
  dsimp only at hk ⊢
  rcases hn with rfl | rfl | rfl | rfl
  · exfalso
    rw [if_pos rfl] at hk
    repeat' (split at hk)
    all_goals simp at hk
  · exfalso
    rw [if_neg (by decide), if_pos rfl] at hk
    repeat' (split at hk)
    all_goals simp at hk
  · rw [if_neg (by decide), if_neg (by decide), if_pos rfl] at hk
    simp at hk
  · rw [if_neg (by decide), if_neg (by decide), if_neg (by decide)]
    exact ⟨rfl, rfl⟩
theorem LJ.on (h : LJ W (some s) c1 d0 d1 n now m) (mi : MI W (some s) c1) (ok : WOk R s) (ok1 : okO (WOk R) c1) (hl : W.length = 21) (hr : wStep R s W st = r) (hk : r.k = 0) :
    LJ r.W (some ⟨s.ep, r.nx, r.sn, r.fl, r.tm, r.i, r.hd, s.l⟩) c1 d0 d1 n now m := by
  subst hr
  have ws := h.w0 s rfl
  have ml := ws.len h.mb
  have o0 := ok.sn0
  have o1 := ok.sn1
  rcases wCase (st := st) ok hk with ⟨e, hx⟩ | ⟨hx, hs, e, e1, e2, e3⟩ | ⟨hx, e, e1, e2, e3⟩
  · rw [e]
    refine ⟨h.li, fun q => ?_, h.n0, h.n1, h.nm, h.mb, h.g0, h.bf, fun s' hs' => ?_, h.w1⟩
    · rcases h.nb q with ⟨s', hs', hx'⟩ | q'
      · exfalso
        cases hs'
        rcases wCase (st := st) ok hk with ⟨_, _⟩ | ⟨a, _, _, b, _⟩ | ⟨_, _, b, _⟩
        · -- a run that holds does not go back
          have hh := wHold (st := st) ok (by omega : 16 ≤ W.length)
          have := (hh.lo hk hx).2
          omega
        · omega
        · omega
      · exact .inr q'
    · cases hs'
      exact ⟨ws.d0, ws.d1, ws.l, fun q => absurd (show 3 ≤ (wStep R s W st).nx from q) (by omega)⟩
  · have lv := ok.lv (by omega)
    have w7 : (W.set 7 (busyW s.sn)).getD 7 0 = busyW s.sn := by rw [set_getD, if_pos ⟨rfl, by omega⟩]
    have other : ∀ k, k ≠ 7 → (W.set 7 (busyW s.sn)).getD k 0 = W.getD k 0 := fun k hk => by rw [set_getD, if_neg (fun q => hk q.1.symm)]
    have no : ∀ t, c1 = some t → 3 ≤ t.nx → False := fun t ht hx => by
      have q := mi.h1 t ht hx
      subst ht
      have o1 : WOk R t := ok1
      have b := bu_busy o1.sn0 o1.sn1
      rw [← q, hs, lv.2.2.1] at b
      cases b
    rw [e]
    refine ⟨by rw [w7, li_busy o0 o1]; exact lv.1, fun _ => .inl ⟨_, rfl, by dsimp only; omega⟩, h.n0, h.n1, h.nm, h.mb, ?_, fun q j hj => ?_, fun s' hs' => ?_, fun t ht => ?_⟩
    · rw [w7, ge_busy o0 o1, ← hs]; exact h.g0
    · rw [w7, ge_busy o0 o1, other _ (by omega), ← hs]; exact h.bf q j hj
    · cases hs'
      refine ⟨ws.d0, ws.d1, ws.l, fun _ j hj => ?_⟩
      dsimp only at hj
      rw [e3, ok.iz (by omega)] at hj
      omega
    · have q := h.w1 t ht
      exact ⟨q.d0, q.d1, q.l, fun q2 => (no t ht q2).elim⟩
  · have lv := ok.lv (by omega)
    have w7 := mi.h0 s rfl (by omega)
    have i0 := ok.i0
    have i1 := ok.i1 (by omega)
    have l1 := ok.l1
    have hp : (wPos s).toNat ≠ 7 := by unfold wPos; omega
    have s7 : (W.set (wPos s).toNat (s.l.getD s.i.toNat 0)).getD 7 0 = W.getD 7 0 := by rw [set_getD, if_neg (fun q => hp q.1)]
    have no : ∀ t, c1 = some t → 3 ≤ t.nx → False := fun t ht hx => mi.ex s t rfl ht (by omega) hx
    have hv : s.l.getD s.i.toNat 0 = d0 := by
      rw [ws.l]
      exact rep_getD (by rw [ws.l, List.length_replicate] at i1; omega)
    rw [e]
    refine ⟨by rw [s7]; exact h.li, fun _ => .inl ⟨_, rfl, e1⟩, h.n0, h.n1, h.nm, h.mb, by rw [s7]; exact h.g0, fun q j hj => ?_, fun s' hs' => ?_, fun t ht => ?_⟩
    · rw [s7]
      have mm := h.mb now.toNat (by have := h.n0; omega) (by have := h.n1; have := h.n0; omega)
      have hb := h.bf q j hj
      rw [w7, ge_busy o0 o1] at hb ⊢
      rw [set_getD, if_neg (fun q => ?_)]
      · exact hb
      · have := q.1
        unfold wPos at this
        omega
    · cases hs'
      refine ⟨ws.d0, ws.d1, ws.l, fun _ j hj => ?_⟩
      dsimp only at hj ⊢
      rw [e3] at hj
      rw [e2, set_getD]
      by_cases hji : (j : Int) = s.i
      · rw [if_pos ⟨by unfold wPos; omega, by omega⟩, hv]
      · rw [if_neg (fun q => by have := q.1; unfold wPos at this; omega)]
        exact ws.bf (by omega) j (by omega)
    · have q := h.w1 t ht
      exact ⟨q.d0, q.d1, q.l, fun q2 => (no t ht q2).elim⟩
theorem LJ.err (h : LJ W (some s) c1 d0 d1 n now m) (ok : WOk R s) (hr : wStep R s W st = r) (hk : r.k = 1) : LJ r.W none c1 d0 d1 n now m := by
  subst hr
  obtain ⟨e, hx⟩ := wErr (st := st) ok hk
  rw [e]
  refine ⟨h.li, fun q => ?_, h.n0, h.n1, h.nm, h.mb, h.g0, h.bf, fun s' hs' => (by cases hs'), h.w1⟩
  rcases h.nb q with ⟨s', hs', hx'⟩ | q'
  · cases hs'; omega
  · exact .inr q'
theorem LJ.fin (h : LJ W (some s) c1 d0 d1 n now m) (mi : MI W (some s) c1) (ok : WOk R s) (hl : W.length = 21) (hr : wStep R s W st = r) (hk : r.k = 2) : LJ r.W none c1 d0 d1 n d0 m := by
  subst hr
  obtain ⟨e, hx⟩ := wFin (st := st) ok hk
  have ws := h.w0 s rfl
  have ml := ws.len h.mb
  have o0 := ok.sn0
  have o1 := ok.sn1
  have lv := ok.lv (by omega)
  have hi := ok.i4 hx
  have w7 : (W.set 7 (writW (busyW s.sn))).getD 7 0 = writW (busyW s.sn) := by rw [set_getD, if_pos ⟨rfl, by omega⟩]
  have other : ∀ k, k ≠ 7 → (W.set 7 (writW (busyW s.sn))).getD k 0 = W.getD k 0 := fun k hk => by rw [set_getD, if_neg (fun q => hk q.1.symm)]
  have no : ∀ t, c1 = some t → 3 ≤ t.nx → False := fun t ht hx' => mi.ex s t rfl ht (by omega) hx'
  have g := ge_lo (w := s.sn)
  have d := ws.d0
  rw [e]
  refine ⟨by rw [w7, li_wr o0 o1 lv.2.1]; exact lv.1, fun q => ?_, by omega, ws.d1, h.nm, h.mb, ?_, fun _ j hj => ?_, fun s' hs' => (by cases hs'), fun t ht => ?_⟩
  · rw [w7, bu_wr o0 o1 lv.2.1] at q; cases q
  · rw [w7, ge_wr o0 o1 lv.2.1]; constructor <;> intro q <;> omega
  · rw [w7, ge_wr o0 o1 lv.2.1, other _ (by omega)]
    exact ws.bf (by omega) j (by omega)
  · have q := h.w1 t ht
    exact ⟨q.d0, q.d1, q.l, fun q2 => (no t ht q2).elim⟩
theorem getD_app {m : List Int} {v : Int} {k : Nat} (h : k < m.length) : (m ++ [v]).getD k 0 = m.getD k 0 := by
  simp [List.getD_eq_getElem?_getD, List.getElem?_append_left h]
theorem WL.more {v : Int} (h : WL W m s d0) : WL W (m ++ [v]) s d0 := by
  have a := h.d0
  have b := h.d1
  exact ⟨a, by rw [List.length_append]; simp; omega, by rw [getD_app (by omega)]; exact h.l, h.bf⟩
theorem LJ.new {k e0 : Int} (h : LJ W none c1 d0 d1 n now m) (k1 : 1 ≤ k) (k4 : k ≤ 4) (hn : 0 ≤ n) : LJ W (some ⟨e0, 1, 0, 0, 0, 0, false, List.replicate k.toNat (n + 1)⟩) c1 (n + 1) d1 (n + 1) now (m ++ [k]) := by
  have a := h.n0
  have b := h.n1
  have c := h.nm
  have gl : ∀ j : Nat, j = m.length → (m ++ [k]).getD j 0 = k := fun j e => by subst e; simp [List.getD_eq_getElem?_getD]
  refine ⟨h.li, fun q => ?_, a, by rw [List.length_append]; simp; omega, by rw [List.length_append]; simp; omega, fun j j1 j2 => ?_, h.g0, fun q j hj => ?_, fun s hs => ?_, fun t ht => (h.w1 t ht).more⟩
  · rcases h.nb q with ⟨s', hs', _⟩ | q'
    · cases hs'
    · exact .inr q'
  · rw [List.length_append] at j2
    by_cases q : j < m.length
    · rw [getD_app q]; exact h.mb j j1 q
    · rw [gl j (by simp at j2; omega)]; exact ⟨k1, k4⟩
  · rw [getD_app (by omega)] at hj
    exact h.bf q j hj
  · cases hs
    refine ⟨by omega, by rw [List.length_append]; simp; omega, ?_, fun q => absurd (show (3 : Int) ≤ 1 from q) (by decide)⟩
    show List.replicate k.toNat (n + 1) = _
    rw [gl (n + 1).toNat (by omega)]
theorem LJ.back (h : LJ W c0 c1 d0 d1 n now m) (o0 : okO (WOk R) c0) (o1 : okO (WOk R) c1) (h0 : hdO c0 = false) (h1 : hdO c1 = false) (hl : W.length = 21) :
    LJ ((W.set 7 (goneW (W.getD 7 0))).set 7 (bornW (goneW (W.getD 7 0)))) c0 c1 d0 d1 n 0 m := by
  have k : ∀ {c : Option WS}, okO (WOk R) c → hdO c = false → ∀ s, c = some s → ¬ 3 ≤ s.nx := fun {c} oc hc s hs g => by
    subst hs
    have q : s.hd = false := hc
    rw [(show WOk R s from oc).hdv] at q
    simp at q
    omega
  have w7 : ((W.set 7 (goneW (W.getD 7 0))).set 7 (bornW (goneW (W.getD 7 0)))).getD 7 0 = bornW (goneW (W.getD 7 0)) := by rw [set_getD, if_pos ⟨rfl, by simp; omega⟩]
  have hf := fitW (gone_r (w := W.getD 7 0)).1 (gone_r (w := W.getD 7 0)).2
  have hf0 : fitC (epW (goneW (W.getD 7 0))) 0 0 := ⟨hf.1, hf.2.1, by decide, by decide, by decide, by decide⟩
  have b := h.n1
  have a := h.n0
  refine ⟨by rw [w7]; exact li_pk hf0 true false, fun q => ?_, by decide, by omega, h.nm, h.mb, ?_, fun q => absurd rfl q, fun s hs => ?_, fun s hs => ?_⟩
  · rw [w7] at q
    rw [show buW (bornW (goneW (W.getD 7 0))) = false from bu_pk hf0 true false] at q
    cases q
  · rw [w7]
    exact ⟨fun _ => ge_pk hf0 true false, fun _ => rfl⟩
  · have q := h.w0 s hs
    exact ⟨q.d0, q.d1, q.l, fun q2 => absurd q2 (k o0 h0 s hs)⟩
  · have q := h.w1 s hs
    exact ⟨q.d0, q.d1, q.l, fun q2 => absurd q2 (k o1 h1 s hs)⟩
end
end Go.Proofs.YtmghcelohnlceaaGreatDoor

/- What a reader has read is one message's, whole, as long as what it saw is still so. -/
namespace Go.Proofs.YtmghcelohnlceaaGreatDoor
open Go Go.Hx
set_option maxRecDepth 8000
/-- A reader's run, behind its look at the control word; wh: the message that was there then. -/
structure RQ (W m : List Int) (s : RS) (wh : Int) : Prop where
  le : s.nx ≠ 1 → epW s.sn ≤ epW (W.getD 7 0)
  lg : s.nx ≠ 1 → epW s.sn = epW (W.getD 7 0) → geW s.sn ≤ geW (W.getD 7 0)
  al : s.nx ≠ 1 → stillB s.sn (W.getD 7 0) = true → 1 ≤ wh ∧ wh < m.length ∧ ∀ j : Nat, (j : Int) < m.getD wh.toNat 0 → W.getD (8 + 4 * (geW s.sn % 2) + (j : Int)).toNat 0 = wh ∧ (j < (lst s.o).length → (lst s.o).getD j 0 = wh)
/-- What a step of others leaves as it was. -/
structure WKp (W W' : List Int) : Prop where
  ep : epW (W'.getD 7 0) = epW (W.getD 7 0)
  ge : geW (W'.getD 7 0) = geW (W.getD 7 0)
  st : ∀ a, stillB a (W'.getD 7 0) = true → stillB a (W.getD 7 0) = true ∧ ∀ j : Nat, j < 4 → W'.getD (8 + 4 * (geW a % 2) + (j : Int)).toNat 0 = W.getD (8 + 4 * (geW a % 2) + (j : Int)).toNat 0
theorem still_iff {a b : Int} : stillB a b = true ↔ epW a = epW b ∧ liW a = true ∧ liW b = true ∧ (geW a = geW b ∨ (geW a + 1 = geW b ∧ buW b = false)) := by
  unfold stillB
  simp only [Bool.and_eq_true, decide_eq_true_eq, Bool.or_eq_true, Bool.not_eq_true']
section
variable {R : Int} {s : WS} {t : RS} {W W' m : List Int} {st d0 d1 n now wh : Int} {c0 c1 : Option WS} {r : WR} {q : RR}
theorem WKp.rfl' : WKp W W := ⟨rfl, rfl, fun _ h => ⟨h, fun _ _ => rfl⟩⟩
theorem RQ.keep (h : RQ W m t wh) (k : WKp W W') (mb : ∀ k : Nat, 1 ≤ k → k < m.length → 1 ≤ m.getD k 0 ∧ m.getD k 0 ≤ 4) : RQ W' m t wh := by
  refine ⟨fun x => by rw [k.ep]; exact h.le x, fun x e => by rw [k.ge]; exact h.lg x (by rw [k.ep] at e; exact e), fun x e => ?_⟩
  obtain ⟨e1, e2⟩ := k.st _ e
  obtain ⟨a, b, c⟩ := h.al x e1
  refine ⟨a, b, fun j hj => ?_⟩
  have := (mb wh.toNat (by omega) (by omega)).2
  rw [e2 j (by omega)]
  exact c j hj
/-- A writer that goes on. -/
theorem keep_on (_h : LJ W (some s) c1 d0 d1 n now m) (mi : MI W (some s) c1) (ok : WOk R s) (hl : W.length = 21) (hr : wStep R s W st = r) (hk : r.k = 0) : WKp W r.W := by
  subst hr
  have o0 := ok.sn0
  have o1 := ok.sn1
  rcases wCase (st := st) ok hk with ⟨e, hx⟩ | ⟨hx, hs, e, e1, e2, e3⟩ | ⟨hx, e, e1, e2, e3⟩
  · rw [e]; exact WKp.rfl'
  · have lv := ok.lv (by omega)
    have w7 : (W.set 7 (busyW s.sn)).getD 7 0 = busyW s.sn := by rw [set_getD, if_pos ⟨rfl, by omega⟩]
    have other : ∀ k, k ≠ 7 → (W.set 7 (busyW s.sn)).getD k 0 = W.getD k 0 := fun k hk => by rw [set_getD, if_neg (fun q => hk q.1.symm)]
    rw [e]
    refine ⟨by rw [w7, ep_busy o0 o1, hs], by rw [w7, ge_busy o0 o1, hs], fun a ha => ⟨?_, fun j hj => other _ (by omega)⟩⟩
    rw [w7, still_iff, ep_busy o0 o1, li_busy o0 o1, ge_busy o0 o1, bu_busy o0 o1] at ha
    rw [hs, still_iff]
    obtain ⟨a1, a2, a3, a4⟩ := ha
    refine ⟨a1, a2, a3, .inl ?_⟩
    rcases a4 with a4 | ⟨_, a4⟩
    · exact a4
    · cases a4
  · have w7 := mi.h0 s rfl (by omega)
    have i0 := ok.i0
    have i1 := ok.i1 (by omega)
    have l1 := ok.l1
    have hp : (wPos s).toNat ≠ 7 := by unfold wPos; omega
    have s7 : (W.set (wPos s).toNat (s.l.getD s.i.toNat 0)).getD 7 0 = W.getD 7 0 := by rw [set_getD, if_neg (fun q => hp q.1)]
    rw [e]
    refine ⟨by rw [s7], by rw [s7], fun a ha => ?_⟩
    rw [s7] at ha
    refine ⟨ha, fun j hj => ?_⟩
    rw [w7, still_iff, ge_busy o0 o1, bu_busy o0 o1] at ha
    obtain ⟨_, _, _, a4⟩ := ha
    have a4 : geW a = geW s.sn := by
      rcases a4 with a4 | ⟨_, a4⟩
      · exact a4
      · cases a4
    rw [set_getD, if_neg (fun q => ?_)]
    have := q.1
    unfold wPos at this
    rw [a4] at this
    omega
theorem keep_err (ok : WOk R s) (hr : wStep R s W st = r) (hk : r.k = 1) : WKp W r.W := by
  subst hr
  rw [(wErr (st := st) ok hk).1]
  exact WKp.rfl'
/-- A writer that is done. -/
theorem RQ.fin (h : RQ W m t wh) (mi : MI W (some s) c1) (ok : WOk R s) (hl : W.length = 21) (hr : wStep R s W st = r) (hk : r.k = 2) : RQ r.W m t wh := by
  subst hr
  obtain ⟨e, hx⟩ := wFin (st := st) ok hk
  have o0 := ok.sn0
  have o1 := ok.sn1
  have lv := ok.lv (by omega)
  have w7 : (W.set 7 (writW (busyW s.sn))).getD 7 0 = writW (busyW s.sn) := by rw [set_getD, if_pos ⟨rfl, by omega⟩]
  have other : ∀ k, k ≠ 7 → (W.set 7 (writW (busyW s.sn))).getD k 0 = W.getD k 0 := fun k hk => by rw [set_getD, if_neg (fun q => hk q.1.symm)]
  have was := mi.h0 s rfl (by omega)
  have we : epW (W.getD 7 0) = epW s.sn := by rw [was, ep_busy o0 o1]
  have wg : geW (W.getD 7 0) = geW s.sn := by rw [was, ge_busy o0 o1]
  rw [e]
  refine ⟨fun x => by rw [w7, ep_wr o0 o1 lv.2.1, ← we]; exact h.le x, fun x q => ?_, fun x q => ?_⟩
  · rw [w7, ep_wr o0 o1 lv.2.1, ← we] at q
    have := h.lg x q
    rw [w7, ge_wr o0 o1 lv.2.1, ← wg]
    omega
  · rw [w7, still_iff, ep_wr o0 o1 lv.2.1, li_wr o0 o1 lv.2.1, ge_wr o0 o1 lv.2.1, bu_wr o0 o1 lv.2.1] at q
    obtain ⟨a1, a2, a3, a4⟩ := q
    have hg := h.lg x (by rw [we]; exact a1)
    have a5 : geW t.sn = geW s.sn := by
      rcases a4 with a4 | ⟨a4, _⟩
      · omega
      · omega
    obtain ⟨b1, b2, b3⟩ := h.al x (by rw [still_iff, we, wg]; exact ⟨a1, a2, by rw [was, li_busy o0 o1]; exact a3, .inl a5⟩)
    exact ⟨b1, b2, fun j hj => by rw [other _ (by omega)]; exact b3 j hj⟩
/-- The topic goes, and comes anew. -/
theorem RQ.back (h : RQ W m t wh) (he : epW (W.getD 7 0) < 30000) (hl : W.length = 21) : RQ ((W.set 7 (goneW (W.getD 7 0))).set 7 (bornW (goneW (W.getD 7 0)))) m t wh ∧ epW (((W.set 7 (goneW (W.getD 7 0))).set 7 (bornW (goneW (W.getD 7 0)))).getD 7 0) = epW (W.getD 7 0) + 1 := by
  have w7 : ((W.set 7 (goneW (W.getD 7 0))).set 7 (bornW (goneW (W.getD 7 0)))).getD 7 0 = bornW (goneW (W.getD 7 0)) := by rw [set_getD, if_pos ⟨rfl, by simp; omega⟩]
  have hf := fitW (gone_r (w := W.getD 7 0)).1 (gone_r (w := W.getD 7 0)).2
  have hf0 : fitC (epW (goneW (W.getD 7 0))) 0 0 := ⟨hf.1, hf.2.1, by decide, by decide, by decide, by decide⟩
  have e0 : 0 ≤ epW (W.getD 7 0) := by unfold epW; omega
  have e : epW (bornW (goneW (W.getD 7 0))) = epW (W.getD 7 0) + 1 := by
    rw [show epW (bornW (goneW (W.getD 7 0))) = epW (goneW (W.getD 7 0)) from ep_pk hf0 true false, show epW (goneW (W.getD 7 0)) = (epW (W.getD 7 0) + 1) % 32768 from ep_pk gone_fit false false]
    omega
  rw [w7, e]
  refine ⟨⟨fun x => ?_, fun x q => ?_, fun x q => ?_⟩, rfl⟩
  · rw [w7, e]; have := h.le x; omega
  · rw [w7, e] at q; have := h.le x; omega
  · rw [w7, still_iff, e] at q
    have := h.le x
    omega
theorem RQ.more {v : Int} (h : RQ W m t wh) : RQ W (m ++ [v]) t wh := by
  refine ⟨h.le, h.lg, fun x q => ?_⟩
  obtain ⟨a, b, c⟩ := h.al x q
  exact ⟨a, by rw [List.length_append]; simp; omega, fun j hj => c j (by rw [getD_app (by omega)] at hj; exact hj)⟩
theorem RQ.new (hx : t.nx = 1) : RQ W m t wh := ⟨fun x => absurd hx x, fun x => absurd hx x, fun x => absurd hx x⟩
/-- It looks. -/
theorem RQ.look {ep nx sn fl tm : Int} (h : LJ W c0 c1 d0 d1 n now m) (ok : ROk R t) (w0 : 0 ≤ W.getD 7 0) (w1 : W.getD 7 0 < 18446744073709551616) (hr : rStep R t W st = q) (hk : q.k = 0) (hs : sn = q.sn) : RQ W m ⟨ep, nx, sn, fl, tm, none⟩ now := by
  have aft := rAft (st := st) ok w0 w1
  rw [hr] at aft
  have hg := (aft.go (.inl hk)).lv
  obtain ⟨e4, e3, e2, e1, e5⟩ := aft.lk hk
  have hg := (hg (by dsimp only; omega)).2.2
  rw [e2] at hs hg
  subst hs
  have hn : now ≠ 0 := fun q => hg (h.g0.1 q)
  have := h.n0
  exact ⟨fun _ => Int.le_refl _, fun _ _ => Int.le_refl _, fun _ _ => ⟨by omega, h.n1, fun j hj => ⟨h.bf hn j hj, fun q => absurd q (by simp [lst])⟩⟩⟩
/-- It has one word more. -/
theorem RQ.word {nx fl tm : Int} (h : RQ W m t wh) (ok : ROk R t) (w0 : 0 ≤ W.getD 7 0) (w1 : W.getD 7 0 < 18446744073709551616) (hr : rStep R t W st = q) (hk : q.k = 3) : RQ W m ⟨t.ep, nx, q.sn, fl, tm, some (lst t.o ++ [q.vl])⟩ wh := by
  have aft := rAft (st := st) ok w0 w1
  rw [hr] at aft
  obtain ⟨e4, e2, e1, _, e6, e3, e5⟩ := aft.wd hk
  rw [e2]
  have hx : t.nx ≠ 1 := by omega
  refine ⟨fun _ => h.le hx, fun _ => h.lg hx, fun _ q2 => ?_⟩
  obtain ⟨a, b, c⟩ := h.al hx q2
  refine ⟨a, b, fun j hj => ⟨(c j hj).1, fun hj2 => ?_⟩⟩
  show (lst t.o ++ [q.vl]).getD j 0 = wh
  by_cases g : j < (lst t.o).length
  · rw [getD_app g]; exact (c j hj).2 g
  · have hj3 : j = (lst t.o).length := by
      have : j < (lst t.o ++ [q.vl]).length := hj2
      simp at this; omega
    have e7 : (lst t.o ++ [q.vl]).getD j 0 = q.vl := by subst hj3; simp [List.getD_eq_getElem?_getD]
    rw [e7, e5]
    have := (c j hj).1
    unfold rPos
    rw [← hj3]
    exact this
/-- It is done: what it has is the message. -/
theorem RQ.told {l : List Int} (h : RQ W m t wh) (ok : ROk R t) (mb : ∀ k : Nat, 1 ≤ k → k < m.length → 1 ≤ m.getD k 0 ∧ m.getD k 0 ≤ 4) (w0 : 0 ≤ W.getD 7 0) (w1 : W.getD 7 0 < 18446744073709551616) (hr : rStep R t W st = q) (hk : q.k = 2) (hl : lst t.o = l) :
    l.length = 4 ∧ 1 ≤ wh ∧ wh < m.length ∧ l.getD 0 0 = wh ∧ (1 ≤ m.getD wh.toNat 0 ∧ m.getD wh.toNat 0 ≤ 4) ∧ ∀ j : Nat, (j : Int) < m.getD wh.toNat 0 → l.getD j 0 = wh := by
  subst hl
  have aft := rAft (st := st) ok w0 w1
  rw [hr] at aft
  obtain ⟨e4, e2, e1, e3⟩ := aft.ok2 hk
  have l4 := ok.w4 e4
  obtain ⟨a, b, c⟩ := h.al (by omega) e2
  have mm := mb wh.toNat (by omega) (by omega)
  exact ⟨l4, a, b, (c 0 (by omega)).2 (by omega), mm, fun j hj => (c j hj).2 (by omega)⟩
end
/-- Where a reader's step goes. -/
theorem rWd {R : Int} {s : RS} {W : List Int} {st : Int} : ((rStep R s W st).k ≠ 3 → (rStep R s W st).wd = 7) ∧ ((rStep R s W st).k = 3 → (rStep R s W st).wd ≠ 7) := by
  unfold rStep
  split
  · split
    · exact ⟨fun _ => rfl, fun q => by simp at q⟩
    · split
      · exact ⟨fun _ => rfl, fun q => by simp at q⟩
      · exact ⟨fun _ => rfl, fun q => by simp at q⟩
  · split
    · exact ⟨fun q => absurd rfl q, fun _ => by unfold rPos; dsimp only; omega⟩
    · split
      · exact ⟨fun _ => rfl, fun q => by simp at q⟩
      · split
        · exact ⟨fun _ => rfl, fun q => by simp at q⟩
        · exact ⟨fun _ => rfl, fun q => by simp at q⟩
/-- A read that is done with an error is told so. -/
theorem r_err {R : Int} {s : RS} {W : List Int} {st : Int} {r : RR} (hk : (rStep R s W st).k = 1 ∨ (rStep R s W st).k = 5) (hr : rStep R s W st = r) : ¬ r.c = 0 := by
  subst hr
  unfold rStep at hk ⊢
  split at hk
  · rename_i g
    rw [if_pos g]
    split at hk
    · rename_i g2
      rw [if_pos g2]; dsimp only; decide
    · rename_i g2
      rw [if_neg g2]
      split at hk
      · rename_i g3
        rw [if_pos g3]; dsimp only; decide
      · simp at hk
  · rename_i g
    rw [if_neg g]
    split at hk
    · simp at hk
    · rename_i g2
      rw [if_neg g2]
      split at hk
      · simp at hk
      · rename_i g3
        rw [if_neg g3]
        split at hk
        · rename_i g4
          rw [if_pos g4]; dsimp only; decide
        · simp at hk
end Go.Proofs.YtmghcelohnlceaaGreatDoor
