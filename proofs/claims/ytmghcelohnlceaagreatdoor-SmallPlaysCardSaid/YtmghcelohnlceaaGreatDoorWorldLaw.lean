/- The world of these laws, over a heap; what is always so. -/
import Derived.Test.YtmghcelohnlceaaGreatDoorWorldRows
import Derived.Test.YtmghcelohnlceaaGreatDoorAsVar
namespace Go.Proofs.YtmghcelohnlceaaGreatDoor
open Go Go.Hx
set_option maxRecDepth 8000
section
variable {σ : Nat → Nat} {H H' : List HE} {h h' i : Nat} {R : Int} {o : Option WS} {r : Option RS} {f : Bool} {W : List Int}
theorem ren_wrP : (wrP o h).ren σ = wrP o (σ h) := by cases o <;> rfl
theorem ren_wlE : (wlE o).ren σ = wlE o := by cases o <;> rfl
theorem ren_rdP : (rdP r h).ren σ = rdP r (σ h) := by cases r <;> rfl
theorem ren_rlE : (rlE r).ren σ = rlE r := by
  rcases r with _ | ⟨_, _, _, _, _, o⟩
  · rfl
  · cases o <;> rfl
theorem sim_wrP (hs : σ h = h') : sim (wrP o h') ((wrP o h).ren σ) := by subst hs; rw [ren_wrP]; exact sim_refl _
theorem sim_rdP (hs : σ h = h') : sim (rdP r h') ((rdP r h).ren σ) := by subst hs; rw [ren_rdP]; exact sim_refl _
theorem okP_wrP (e : thereF H' h = (wrE R o i).there) : okP (thereF H') (wrP o h) := by
  cases o <;> first | exact trivial | simpa [wrP, okP, wrE, HE.there] using e
theorem okP_rdP (e : thereF H' h = (rdE R r i).there) : okP (thereF H') (rdP r h) := by
  cases r <;> first | exact trivial | simpa [rdP, okP, rdE, HE.there] using e
theorem subE_wrE (hg : H[σ i]? = some (wrE R o h')) (hs : σ h = h') : subE σ H i (wrE R o h) := by
  subst hs
  cases o with
  | none => trivial
  | some s =>
    simp only [wrE] at hg
    simp only [wrE, subE, getH_some.2 hg, simG]
    exact simO_refl _
theorem subE_rdE (hg : H[σ i]? = some (rdE R r h')) (hs : σ h = h') : subE σ H i (rdE R r h) := by
  subst hs
  rcases r with _ | ⟨_, _, _, _, _, o⟩
  · trivial
  · simp only [rdE] at hg
    simp only [rdE, subE, getH_some.2 hg, simG]
    cases o <;> exact simO_refl _
theorem okE_wrE {A : Nat → Bool} (e : A h = (wlE o).there) : okE A (wrE R o h) := by
  cases o with
  | none => trivial
  | some s =>
    have e' : A h = true := e
    simp only [wrE, wrO, okE, okPs, okP]
    exact ⟨trivial, trivial, trivial, trivial, trivial, trivial, trivial, trivial, trivial, trivial, trivial, trivial, trivial, trivial, trivial, trivial, trivial, e', trivial, trivial, trivial⟩
theorem okE_wlE {A : Nat → Bool} : okE A (wlE o) := by cases o <;> trivial
theorem okE_rdE {A : Nat → Bool} (e : A h = (rlE r).there) : okE A (rdE R r h) := by
  rcases r with _ | ⟨_, _, _, _, _, o⟩
  · trivial
  · cases o with
    | none =>
      simp only [rdE, rdO, okE, okPs, okP, slV]
      exact ⟨trivial, trivial, trivial, trivial, trivial, trivial, trivial, trivial, trivial, trivial, trivial, trivial, trivial, trivial, trivial, trivial, trivial, trivial, trivial⟩
    | some l =>
      have e' : A h = true := e
      simp only [rdE, rdO, okE, okPs, okP, slV]
      exact ⟨trivial, trivial, trivial, trivial, trivial, trivial, trivial, trivial, trivial, trivial, trivial, trivial, trivial, trivial, trivial, trivial, trivial, e', trivial⟩
theorem okE_rlE {A : Nat → Bool} : okE A (rlE r) := by
  rcases r with _ | ⟨_, _, _, _, _, o⟩
  · trivial
  · cases o <;> trivial
end
/-- The world of these laws. -/
structure Wd where
  (W : List Int) (st kd wd vl : Int) (ch : Bool) (stb kdb wdb vlb : Int) (chb f : Bool) (n : Int)
  (c0 c1 : Option WS) (c2 c3 : Option RS) (p0 q0 p1 q1 p2 q2 p3 q3 : Value) (d0 d1 d2 d3 : Int)
def okO {α : Type} (P : α → Prop) : Option α → Prop
  | none => True
  | some s => P s
structure WOk (R : Int) (s : WS) : Prop where
  nx0 : 1 ≤ s.nx
  nx1 : s.nx ≤ 4
  fl0 : 0 ≤ s.fl
  fl1 : s.fl < R
  sn0 : 0 ≤ s.sn
  sn1 : s.sn < 18446744073709551616
  lv : 2 ≤ s.nx → liW s.sn = true ∧ geW s.sn < 2147483647 ∧ buW s.sn = false ∧ epW s.sn = s.ep
  i0 : 0 ≤ s.i
  i1 : s.nx ≤ 3 → s.i < s.l.length
  iz : s.nx ≤ 2 → s.i = 0
  i4 : s.nx = 4 → s.i = s.l.length
  l0 : 1 ≤ s.l.length
  l1 : s.l.length ≤ 4
  lr : ∀ j, 0 ≤ s.l.getD j 0 ∧ s.l.getD j 0 < 18446744073709551616
  hdv : s.hd = decide (3 ≤ s.nx)
structure ROk (R : Int) (s : RS) : Prop where
  nxc : s.nx = 1 ∨ s.nx = 3 ∨ s.nx = 4
  fl0 : 0 ≤ s.fl
  fl1 : s.fl < R
  sn0 : 0 ≤ s.sn
  sn1 : s.sn < 18446744073709551616
  lv : s.nx ≠ 1 → liW s.sn = true ∧ epW s.sn = s.ep ∧ geW s.sn ≠ 0
  w3 : s.nx = 3 → (lst s.o).length < 4
  w4 : s.nx = 4 → (lst s.o).length = 4
/-- What is always so, at the i-th turn. -/
structure BInv (R : Int) (i : Nat) (z : Wd) : Prop where
  r1 : 1 ≤ R
  r2 : R ≤ 8
  hi : i ≤ 10000
  hl : z.W.length = 21
  hw : ∀ j, 0 ≤ z.W.getD j 0 ∧ z.W.getD j 0 < 18446744073709551616
  s0 : 0 ≤ z.st
  s1 : z.st ≤ 100 + 2 * (i : Int)
  t0 : 0 ≤ z.stb
  t1 : z.stb ≤ 100 + 2 * (i : Int)
  n0 : 0 ≤ z.n
  n1 : z.n ≤ (i : Int)
  o0 : okO (WOk R) z.c0
  o1 : okO (WOk R) z.c1
  o2 : okO (ROk R) z.c2
  o3 : okO (ROk R) z.c3
theorem rg_set {W : List Int} {k : Nat} {v : Int} (h : ∀ j, 0 ≤ W.getD j 0 ∧ W.getD j 0 < 18446744073709551616) (h0 : 0 ≤ v) (h1 : v < 18446744073709551616) : ∀ j, 0 ≤ (W.set k v).getD j 0 ∧ (W.set k v).getD j 0 < 18446744073709551616 := fun j => by
  rw [set_getD]
  split
  · exact ⟨h0, h1⟩
  · exact h j
theorem BInv.next {R : Int} {i : Nat} {z z' : Wd} (h : BInv R i z) (hi : i + 1 ≤ 10000) (hl : z'.W.length = 21) (hw : ∀ j, 0 ≤ z'.W.getD j 0 ∧ z'.W.getD j 0 < 18446744073709551616)
    (s0 : z.st ≤ z'.st) (s1 : z'.st ≤ z.st + 2) (t0 : z.stb ≤ z'.stb) (t1 : z'.stb ≤ z.stb + 2) (n0 : z.n ≤ z'.n) (n1 : z'.n ≤ z.n + 1)
    (o0 : okO (WOk R) z'.c0) (o1 : okO (WOk R) z'.c1) (o2 : okO (ROk R) z'.c2) (o3 : okO (ROk R) z'.c3) : BInv R (i + 1) z' := by
  have h1 := h.s0
  have h2 := h.s1
  have h3 := h.t0
  have h4 := h.t1
  have h5 := h.n0
  have h6 := h.n1
  exact ⟨h.r1, h.r2, hi, hl, hw, by omega, by omega, by omega, by omega, by omega, by omega, o0, o1, o2, o3⟩
/-! What becomes of runs. -/
section
variable {R : Int}
theorem wok_new {ep n : Int} {K : Nat} (r1 : 1 ≤ R) (h1 : 1 ≤ K) (h4 : K ≤ 4) (n0 : 0 ≤ n) (n1 : n < 1000000) : WOk R ⟨ep, 1, 0, 0, 0, 0, false, List.replicate K n⟩ := by
  refine ⟨?_, ?_, ?_, ?_, ?_, ?_, fun q => ?_, ?_, fun _ => ?_, fun _ => rfl, fun q => ?_, ?_, ?_, fun j => ?_, rfl⟩
  · show (1 : Int) ≤ 1; decide
  · show (1 : Int) ≤ 4; decide
  · show (0 : Int) ≤ 0; decide
  · show (0 : Int) < R; omega
  · show (0 : Int) ≤ 0; decide
  · show (0 : Int) < 18446744073709551616; decide
  · exact absurd (show (2 : Int) ≤ 1 from q) (by decide)
  · show (0 : Int) ≤ 0; decide
  · show (0 : Int) < ((List.replicate K n).length : Int)
    simp; omega
  · exact absurd (show (1 : Int) = 4 from q) (by decide)
  · show 1 ≤ (List.replicate K n).length
    simpa using h1
  · show (List.replicate K n).length ≤ 4
    simpa using h4
  · show 0 ≤ (List.replicate K n).getD j 0 ∧ (List.replicate K n).getD j 0 < 18446744073709551616
    rw [List.getD_eq_getElem?_getD, List.getElem?_replicate]
    split
    · simp; omega
    · simp
variable {s : WS} (h : WOk R s) {w t : Int}
include h
theorem wok_look (w0 : 0 ≤ w) (w1 : w < 18446744073709551616) (hx : s.nx = 1) (g1 : liW w = true) (g2 : epW w = s.ep) (g3 : ¬ geW w = 2147483647) (g4 : buW w = false) : WOk R ⟨s.ep, 2, w, s.fl, t, s.i, s.hd, s.l⟩ :=
  ⟨by show (1 : Int) ≤ 2; decide, by show (2 : Int) ≤ 4; decide, h.fl0, h.fl1, w0, w1, fun _ => ⟨g1, by have := ge_hi (w := w); show geW w < 2147483647; omega, g4, g2⟩, h.i0, fun _ => h.i1 (by omega), fun _ => h.iz (by omega), fun q => absurd (show (2 : Int) = 4 from q) (by decide), h.l0, h.l1, h.lr, by rw [h.hdv, hx]; rfl⟩
theorem wok_busy (w0 : 0 ≤ w) (w1 : w < 18446744073709551616) (hx : s.nx = 1) (hf : s.fl + 1 < R) : WOk R ⟨s.ep, 1, w, s.fl + 1, t, s.i, s.hd, s.l⟩ :=
  ⟨by show (1 : Int) ≤ 1; decide, by show (1 : Int) ≤ 4; decide, by have := h.fl0; show 0 ≤ s.fl + 1; omega, hf, w0, w1, fun q => absurd (show (2 : Int) ≤ 1 from q) (by decide), h.i0, fun _ => h.i1 (by omega), fun _ => h.iz (by omega), fun q => absurd (show (1 : Int) = 4 from q) (by decide), h.l0, h.l1, h.lr, by rw [h.hdv, hx]⟩
theorem wok_hold (hx : s.nx = 2) : WOk R ⟨s.ep, 3, s.sn, s.fl, s.tm, s.i, true, s.l⟩ :=
  ⟨by show (1 : Int) ≤ 3; decide, by show (3 : Int) ≤ 4; decide, h.fl0, h.fl1, h.sn0, h.sn1, fun _ => h.lv (by omega), h.i0, fun _ => h.i1 (by omega), fun q => absurd (show (3 : Int) ≤ 2 from q) (by decide), fun q => absurd (show (3 : Int) = 4 from q) (by decide), h.l0, h.l1, h.lr, rfl⟩
theorem wok_lost (hx : s.nx = 2) (hf : s.fl + 1 < R) : WOk R ⟨s.ep, 1, s.sn, s.fl + 1, s.tm, s.i, false, s.l⟩ :=
  ⟨by show (1 : Int) ≤ 1; decide, by show (1 : Int) ≤ 4; decide, by have := h.fl0; show 0 ≤ s.fl + 1; omega, hf, h.sn0, h.sn1, fun q => absurd (show (2 : Int) ≤ 1 from q) (by decide), h.i0, fun _ => h.i1 (by omega), fun _ => h.iz (by omega), fun q => absurd (show (1 : Int) = 4 from q) (by decide), h.l0, h.l1, h.lr, rfl⟩
theorem wok_word (hx : s.nx = 3) : WOk R ⟨s.ep, if s.i + 1 = s.l.length then 4 else 3, s.sn, s.fl, s.tm, s.i + 1, s.hd, s.l⟩ := by
  have q1 := h.i0
  have q2 := h.i1 (by omega)
  refine ⟨?_, ?_, h.fl0, h.fl1, h.sn0, h.sn1, fun _ => h.lv (by omega), by show 0 ≤ s.i + 1; omega, ?_, ?_, ?_, h.l0, h.l1, h.lr, ?_⟩
  · show 1 ≤ if s.i + 1 = s.l.length then (4 : Int) else 3
    split <;> decide
  · show (if s.i + 1 = s.l.length then (4 : Int) else 3) ≤ 4
    split <;> decide
  · show (if s.i + 1 = s.l.length then (4 : Int) else 3) ≤ 3 → s.i + 1 < s.l.length
    split <;> intro h <;> omega
  · show (if s.i + 1 = s.l.length then (4 : Int) else 3) ≤ 2 → s.i + 1 = 0
    split <;> intro h <;> omega
  · show (if s.i + 1 = s.l.length then (4 : Int) else 3) = 4 → s.i + 1 = s.l.length
    split <;> intro h <;> omega
  · show s.hd = decide (3 ≤ if s.i + 1 = s.l.length then (4 : Int) else 3)
    rw [h.hdv, hx]
    split <;> rfl
end
section
variable {R : Int}
theorem rok_new {ep : Int} (r1 : 1 ≤ R) : ROk R ⟨ep, 1, 0, 0, 0, none⟩ :=
  ⟨.inl rfl, by show (0 : Int) ≤ 0; decide, by show (0 : Int) < R; omega, by show (0 : Int) ≤ 0; decide, by show (0 : Int) < 18446744073709551616; decide, fun q => absurd rfl q, fun q => absurd (show (1 : Int) = 3 from q) (by decide), fun q => absurd (show (1 : Int) = 4 from q) (by decide)⟩
variable {s : RS} (h : ROk R s) {w t : Int}
include h
theorem rok_look (w0 : 0 ≤ w) (w1 : w < 18446744073709551616) (g1 : liW w = true) (g2 : epW w = s.ep) (g3 : ¬ geW w = 0) : ROk R ⟨s.ep, 3, w, s.fl, t, none⟩ :=
  ⟨.inr (.inl rfl), h.fl0, h.fl1, w0, w1, fun _ => ⟨g1, g2, g3⟩, fun _ => by show (0 : Nat) < 4; decide, fun q => absurd (show (3 : Int) = 4 from q) (by decide)⟩
theorem rok_word {v : Int} (hx : s.nx = 3) : ROk R ⟨s.ep, if (lst s.o).length + 1 = 4 then 4 else 3, s.sn, s.fl, s.tm, some (lst s.o ++ [v])⟩ := by
  have q := h.w3 hx
  refine ⟨?_, h.fl0, h.fl1, h.sn0, h.sn1, fun _ => h.lv (by omega), ?_, ?_⟩
  · show (if (lst s.o).length + 1 = 4 then (4 : Int) else 3) = 1 ∨ _
    split
    · exact .inr (.inr rfl)
    · exact .inr (.inl rfl)
  · show (if (lst s.o).length + 1 = 4 then (4 : Int) else 3) = 3 → (lst s.o ++ [v]).length < 4
    rw [List.length_append, List.length_singleton]
    split <;> intro h <;> omega
  · show (if (lst s.o).length + 1 = 4 then (4 : Int) else 3) = 4 → (lst s.o ++ [v]).length = 4
    rw [List.length_append, List.length_singleton]
    split <;> intro h <;> omega
theorem rok_fail (hf : s.fl + 1 < R) : ROk R ⟨s.ep, 1, s.sn, s.fl + 1, s.tm, s.o⟩ :=
  ⟨.inl rfl, by have := h.fl0; show 0 ≤ s.fl + 1; omega, hf, h.sn0, h.sn1, fun q => absurd rfl q, fun q => absurd (show (1 : Int) = 3 from q) (by decide), fun q => absurd (show (1 : Int) = 4 from q) (by decide)⟩
end
/-! Words that are stored. -/
theorem busy_r {w : Int} (w0 : 0 ≤ w) (w1 : w < 18446744073709551616) : 0 ≤ busyW w ∧ busyW w < 18446744073709551616 := pk_r (fitW w0 w1) (liW w) true
theorem writ_r {w : Int} (w0 : 0 ≤ w) (w1 : w < 18446744073709551616) (hg : geW w < 2147483647) : 0 ≤ writW (busyW w) ∧ writW (busyW w) < 18446744073709551616 := by
  have hf := fitW w0 w1
  have b := busy_r w0 w1
  have b6 : geW (busyW w) = geW w := by rw [busyW, ge_pk hf]
  have hf2 := fitW b.1 b.2
  have hf3 : fitC (epW (busyW w)) (geW (busyW w) + 1) (blW (busyW w)) := ⟨hf2.1, hf2.2.1, by have := hf2.2.2.1; omega, by omega, hf2.2.2.2.2.1, hf2.2.2.2.2.2⟩
  exact pk_r hf3 (liW (busyW w)) false
theorem gone_fit {w : Int} : fitC ((epW w + 1) % 32768) 0 0 := ⟨by omega, by omega, by decide, by decide, by decide, by decide⟩
theorem gone_r {w : Int} : 0 ≤ goneW w ∧ goneW w < 18446744073709551616 := pk_r gone_fit false false
theorem born_r {w : Int} (w0 : 0 ≤ w) : 0 ≤ bornW w ∧ bornW w < 18446744073709551616 := pk_r ⟨ep_lo w0, ep_hi, by decide, by decide, by decide, by decide⟩ true false
end Go.Proofs.YtmghcelohnlceaaGreatDoor
