/- FindPlays: the runs that list do a step. -/
import Derived.Test.YtkkddjchkkaagaaGreatDoorPlaysWorld
import Derived.Test.YtkkddjchkkaagaaGreatDoorFailsSteps

namespace Go.Proofs.YtkkddjchkkaagaaGreatDoor
open Go Go.Hx
set_option maxRecDepth 8000
theorem dl_new {T : Nat} (_t1 : 1 ≤ T) : DLI T ⟨1, 0, 0, 0, none, 0, 0⟩ none 0 := ⟨up_nil, List.Perm.refl _, Iff.rfl, rfl, rfl, fun q => absurd q (show ¬ (1 : Nat) = 2 by decide), Nat.zero_le _, Nat.zero_le _⟩
section
variable {T : Nat} {R : Int} {N cap : Nat} {key : Int} {o : Nat → Int × Int × Int × Bool} {x : XP} {ρ : Nat → Nat × Nat} {w : World} {I : Act → World → Prop}
set_option maxHeartbeats 4000000 in
theorem plA (h : PInv T R N (cRem 1 12 key) x) (hin : x.i < N) (hi : x.i < 120) {a : Nat} (ht : x.z.l.told = none) (hd : x.z.dL = none) (hmv : mvB x.z.l x.z.W = false) {r : LR} (hst : lStep T R x.z.l x.z.W x.z.st = r) (ht2 : r.s.told = none) (hd2 : dLF x.z.l x.z.W x.z.dL = none) (htn2 : ∀ l, r.s.told = some l → 0 < l.length) (e0 : ¬ r.s.ph = 0)
    (J : ∀ p, PJ p T R N cap key o x ρ w I) : ∃ p, PU 41 a p T R N cap key o x ρ w I := by
  have hk := h.fk
  have hs2 := h.s2
  have hb := h.b
  have hdf := h.df
  have hdl := h.dl
  have htn := h.tn
  have hfc := h.fc
  have hlc := h.lc
  obtain ⟨i, ⟨W, st, kd, wd, vl, ch, f, dp, l, dL⟩⟩ := x
  obtain ⟨ph0, seq0, j0, fd0, told0, er0, tm0⟩ := l
  dsimp only at hin hi hst ht hd hd2 hmv hk hs2 hb hdf hdl htn hfc hlc
  subst ht; subst hd
  have t1 := hb.t1
  have t8 := hb.t8
  have r1 := hb.r1
  have r4 := hb.r4
  have hl := hb.hl
  have st0 := hb.s0
  have st1 := hb.s1
  have hr := right_FR t1 t8 r1 r4
  have fi1 : (i : Int) < (N : Int) := by omega
  have fi2 : (i : Int) < 120 := by omega
  have ewi : IntKind.i64.wrap ((i : Int) + 1) = ((i + 1 : Nat) : Int) := by rw [wi64 (by omega) (by omega)]; omega
  obtain ⟨a1, a2⟩ := dli_step (R := R) (W := W) (st := st) t1 hlc.p1 hdl
  rw [hst, hd2] at a1 a2
  have hi8 : j0 ≤ 8 := by have h3 : j0 ≤ T := hdl.t8; omega
  have hc1 : r.s.ph ≠ 0 → LC T R r.s := fun q => by rw [← hst] at q ⊢; exact lStep_c hb hlc q
  obtain ⟨⟨ph', seq', j', fd', told', er', tm'⟩, wd', vl'⟩ := r
  dsimp only at e0 a1 a2 hc1 ht2 htn2
  subst ht2
  have hde := (a1 e0).e0
  rw [hde] at a1
  have hp1 := (hc1 e0).p1
  dsimp only at hp1
  have eL : lsC (T : Int) R 9 14 ⟨ph', seq', j', fd', none, er', tm'⟩ = lsC (T : Int) R 9 10 ⟨ph', seq', j', fd', none, er', tm'⟩ := rfl
  have hP : FB T R W st ∧ LC T R ⟨ph0, seq0, j0, fd0, none, er0, tm0⟩ ∧ lStep T R ⟨ph0, seq0, j0, fd0, none, er0, tm0⟩ W st = ⟨⟨ph', seq', j', fd', none, er', tm'⟩, wd', vl'⟩ ∧ mvB ⟨ph0, seq0, j0, fd0, none, er0, tm0⟩ W = false := ⟨hb, hlc, hst, hmv⟩
  have hQ : FB T R W st ∧ LC T R ⟨ph0, seq0, j0, fd0, none, er0, tm0⟩ ∧ lStep T R ⟨ph0, seq0, j0, fd0, none, er0, tm0⟩ W st = ⟨⟨ph', seq', j', fd', none, er', tm'⟩, wd', vl'⟩ ∧ mvB ⟨ph0, seq0, j0, fd0, none, er0, tm0⟩ W = false ∧ dLF ⟨ph0, seq0, j0, fd0, none, er0, tm0⟩ W (none) = none ∧ deL R ⟨ph0, seq0, j0, fd0, none, er0, tm0⟩ W 0 = 0 := ⟨hb, hlc, hst, hmv, hd2, hde⟩
  refine ⟨⟨T, R, 0, f00, ⟨f00, 0, 0⟩, 0, 0, 0, false, ⟨ph0, seq0, j0, fd0, none, er0, tm0⟩, ⟨⟨ph', seq', j', fd', none, er', tm'⟩, wd', vl'⟩, none, none, 0, 2, 10⟩, ?_⟩
  have hX := hXPl ⟨T, R, 0, f00, ⟨f00, 0, 0⟩, 0, 0, 0, false, ⟨ph0, seq0, j0, fd0, none, er0, tm0⟩, ⟨⟨ph', seq', j', fd', none, er', tm'⟩, wd', vl'⟩, none, none, 0, 2, 10⟩
  have iv : PInv T R N (cRem 1 12 key) ⟨i + 1, ⟨W, (st + 1), 1, wd', vl', false, f, dp, ⟨ph', seq', j', fd', none, er', tm'⟩, (none)⟩⟩ := ⟨fb_st hb (by omega), by dsimp only; omega, hfc, hc1 e0, hk, hdf, a1 e0, htn2, by dsimp only; omega, by dsimp only; omega⟩
  have J := J ⟨T, R, 0, f00, ⟨f00, 0, 0⟩, 0, 0, 0, false, ⟨ph0, seq0, j0, fd0, none, er0, tm0⟩, ⟨⟨ph', seq', j', fd', none, er', tm'⟩, wd', vl'⟩, none, none, 0, 2, 10⟩ _ iv rfl
  dsimp only [ppT, pK, ppH] at J
  dsimp only [PU, ppU, pKa, ppH, acPO]
  refine sx hX [] 4000 rfl (by (simp [-List.getD_eq_getElem?_getD, -List.length_eq_zero_iff, conjP, hP.1, hP.2.1, hP.2.2.1, hP.2.2.2, hQ.2.2.2.2.1, hQ.2.2.2.2.2, hp1, eL])) ?_
  refine sx hX [.F] 4000 rfl (by (simp [-List.getD_eq_getElem?_getD, -List.length_eq_zero_iff, conjP, e0, hp1])) ?_
  refine sx hX [.F] 4000 rfl (by (simp [-List.getD_eq_getElem?_getD, -List.length_eq_zero_iff, conjP, addOP, e0])) ?_
  refine sx hX [.K, .K, .T, .K, .F, .K, .K, .F, .K, .K, .K, .F, .K, .F] 4000 rfl (by (simp [-List.getD_eq_getElem?_getD, -List.length_eq_zero_iff, conjP, e0, hp1])) ?_
  refine sx hX [.F] 4000 rfl (by (simp [-List.getD_eq_getElem?_getD, -List.length_eq_zero_iff, conjP, addOP, e0])) ?_
  refine sx hX [.K, .F] 4000 rfl (by (simp [-List.getD_eq_getElem?_getD, -List.length_eq_zero_iff, conjP, getH, HE.so])) ?_
  refine sx hX [.F] 4000 rfl (by (simp [-List.getD_eq_getElem?_getD, -List.length_eq_zero_iff, conjP, addOP])) ?_
  (refine J _ _ _ (sub_of [0, 1, 2, 3, 4, 5, 6, 7, 8, 9, 10, 11, 12] rfl rfl rfl rfl ?tt ?hh ?ot ?ok); (case tt => simp only [ewi]; exact clhP); (case hh => exact clhP); (case ot => exact clkP); (case ok => exact clkP))
set_option maxHeartbeats 4000000 in
theorem plB (h : PInv T R N (cRem 1 12 key) x) (hin : x.i < N) (hi : x.i < 120) {a : Nat} {l' d' : List Int} (ht : x.z.l.told = none) (hd : x.z.dL = none) (hmv : mvB x.z.l x.z.W = true) {r : LR} (hst : lStep T R x.z.l x.z.W x.z.st = r) (ht2 : r.s.told = some l') (hd2 : dLF x.z.l x.z.W x.z.dL = some d') (htn2 : ∀ l, r.s.told = some l → 0 < l.length) (e0 : ¬ r.s.ph = 0)
    (J : ∀ p, PJ p T R N cap key o x ρ w I) : ∃ p, PU 41 a p T R N cap key o x ρ w I := by
  have hk := h.fk
  have hs2 := h.s2
  have hb := h.b
  have hdf := h.df
  have hdl := h.dl
  have htn := h.tn
  have hfc := h.fc
  have hlc := h.lc
  obtain ⟨i, ⟨W, st, kd, wd, vl, ch, f, dp, l, dL⟩⟩ := x
  obtain ⟨ph0, seq0, j0, fd0, told0, er0, tm0⟩ := l
  dsimp only at hin hi hst ht hd hd2 hmv hk hs2 hb hdf hdl htn hfc hlc
  subst ht; subst hd
  have t1 := hb.t1
  have t8 := hb.t8
  have r1 := hb.r1
  have r4 := hb.r4
  have hl := hb.hl
  have st0 := hb.s0
  have st1 := hb.s1
  have hr := right_FR t1 t8 r1 r4
  have fi1 : (i : Int) < (N : Int) := by omega
  have fi2 : (i : Int) < 120 := by omega
  have ewi : IntKind.i64.wrap ((i : Int) + 1) = ((i + 1 : Nat) : Int) := by rw [wi64 (by omega) (by omega)]; omega
  obtain ⟨a1, a2⟩ := dli_step (R := R) (W := W) (st := st) t1 hlc.p1 hdl
  rw [hst, hd2] at a1 a2
  have hi8 : j0 ≤ 8 := by have h3 : j0 ≤ T := hdl.t8; omega
  have hc1 : r.s.ph ≠ 0 → LC T R r.s := fun q => by rw [← hst] at q ⊢; exact lStep_c hb hlc q
  obtain ⟨⟨ph', seq', j', fd', told', er', tm'⟩, wd', vl'⟩ := r
  dsimp only at e0 a1 a2 hc1 ht2 htn2
  subst ht2
  have hde := (a1 e0).e0
  rw [hde] at a1
  have hp1 := (hc1 e0).p1
  dsimp only at hp1
  have hd1 : 0 < d'.length := by have h4 : d'.length = l'.length := (a1 e0).pm.length_eq; have := htn2 _ rfl; omega
  have hd9 : d'.length < 1000000 := by have h3 := (a1 e0).tl; have h7 : j' ≤ T := (a1 e0).t8; have h4 : d'.length = l'.length := (a1 e0).pm.length_eq; have h6 : l'.length ≤ j' := h3; omega
  have hP : FB T R W st ∧ LC T R ⟨ph0, seq0, j0, fd0, none, er0, tm0⟩ ∧ lStep T R ⟨ph0, seq0, j0, fd0, none, er0, tm0⟩ W st = ⟨⟨ph', seq', j', fd', some l', er', tm'⟩, wd', vl'⟩ ∧ mvB ⟨ph0, seq0, j0, fd0, none, er0, tm0⟩ W = true := ⟨hb, hlc, hst, hmv⟩
  have hQ : FB T R W st ∧ LC T R ⟨ph0, seq0, j0, fd0, none, er0, tm0⟩ ∧ lStep T R ⟨ph0, seq0, j0, fd0, none, er0, tm0⟩ W st = ⟨⟨ph', seq', j', fd', some l', er', tm'⟩, wd', vl'⟩ ∧ mvB ⟨ph0, seq0, j0, fd0, none, er0, tm0⟩ W = true ∧ dLF ⟨ph0, seq0, j0, fd0, none, er0, tm0⟩ W (none) = some d' ∧ deL R ⟨ph0, seq0, j0, fd0, none, er0, tm0⟩ W 0 = 0 := ⟨hb, hlc, hst, hmv, hd2, hde⟩
  refine ⟨⟨T, R, 0, f00, ⟨f00, 0, 0⟩, 0, 0, 0, true, ⟨ph0, seq0, j0, fd0, none, er0, tm0⟩, ⟨⟨ph', seq', j', fd', some l', er', tm'⟩, wd', vl'⟩, none, some d', 0, 2, 14⟩, ?_⟩
  have hX := hXPl ⟨T, R, 0, f00, ⟨f00, 0, 0⟩, 0, 0, 0, true, ⟨ph0, seq0, j0, fd0, none, er0, tm0⟩, ⟨⟨ph', seq', j', fd', some l', er', tm'⟩, wd', vl'⟩, none, some d', 0, 2, 14⟩
  have iv : PInv T R N (cRem 1 12 key) ⟨i + 1, ⟨W, (st + 1), 1, wd', vl', false, f, dp, ⟨ph', seq', j', fd', some l', er', tm'⟩, (some d')⟩⟩ := ⟨fb_st hb (by omega), by dsimp only; omega, hfc, hc1 e0, hk, hdf, a1 e0, htn2, by dsimp only; omega, by dsimp only; omega⟩
  have J := J ⟨T, R, 0, f00, ⟨f00, 0, 0⟩, 0, 0, 0, true, ⟨ph0, seq0, j0, fd0, none, er0, tm0⟩, ⟨⟨ph', seq', j', fd', some l', er', tm'⟩, wd', vl'⟩, none, some d', 0, 2, 14⟩ _ iv rfl
  dsimp only [ppT, pK, ppH] at J
  dsimp only [PU, ppU, pKa, ppH, acPO]
  refine sx hX [] 4000 rfl (by (simp [-List.getD_eq_getElem?_getD, -List.length_eq_zero_iff, conjP, hP.1, hP.2.1, hP.2.2.1, hP.2.2.2, hQ.2.2.2.2.1, hQ.2.2.2.2.2, hp1])) ?_
  refine sx hX [.F] 4000 rfl (by (simp [-List.getD_eq_getElem?_getD, -List.length_eq_zero_iff, conjP, e0, hp1])) ?_
  refine sx hX [.F] 4000 rfl (by (simp [-List.getD_eq_getElem?_getD, -List.length_eq_zero_iff, conjP, e0, hd1, hd9])) ?_
  refine sx hX [.K, .K, .T, .K, .F, .K, .K, .F, .K, .K, .K, .F, .K, .F] 4000 rfl (by (simp [-List.getD_eq_getElem?_getD, -List.length_eq_zero_iff, conjP, e0, hp1])) ?_
  refine sx hX [.F] 4000 rfl (by (simp [-List.getD_eq_getElem?_getD, -List.length_eq_zero_iff, conjP, addOP, e0])) ?_
  refine sx hX [.K, .F] 4000 rfl (by (simp [-List.getD_eq_getElem?_getD, -List.length_eq_zero_iff, conjP, getH, HE.so])) ?_
  refine sx hX [.F] 4000 rfl (by (simp [-List.getD_eq_getElem?_getD, -List.length_eq_zero_iff, conjP, addOP])) ?_
  (refine J _ _ _ (sub_of [0, 1, 2, 3, 4, 5, 6, 7, 8, 9, 14, 11, 15] rfl rfl rfl rfl ?tt ?hh ?ot ?ok); (case tt => simp only [ewi]; exact clhP); (case hh => exact clhP); (case ot => exact clkP); (case ok => exact clkP))
set_option maxHeartbeats 4000000 in
theorem plC (h : PInv T R N (cRem 1 12 key) x) (hin : x.i < N) (hi : x.i < 120) {a : Nat} {l0 d0 : List Int} (ht : x.z.l.told = some l0) (hd : x.z.dL = some d0) (hmv : mvB x.z.l x.z.W = false) {r : LR} (hst : lStep T R x.z.l x.z.W x.z.st = r) (ht2 : r.s.told = none) (hd2 : dLF x.z.l x.z.W x.z.dL = none) (htn2 : ∀ l, r.s.told = some l → 0 < l.length) (e0 : ¬ r.s.ph = 0)
    (J : ∀ p, PJ p T R N cap key o x ρ w I) : ∃ p, PU 41 a p T R N cap key o x ρ w I := by
  have hk := h.fk
  have hs2 := h.s2
  have hb := h.b
  have hdf := h.df
  have hdl := h.dl
  have htn := h.tn
  have hfc := h.fc
  have hlc := h.lc
  obtain ⟨i, ⟨W, st, kd, wd, vl, ch, f, dp, l, dL⟩⟩ := x
  obtain ⟨ph0, seq0, j0, fd0, told0, er0, tm0⟩ := l
  dsimp only at hin hi hst ht hd hd2 hmv hk hs2 hb hdf hdl htn hfc hlc
  subst ht; subst hd
  have t1 := hb.t1
  have t8 := hb.t8
  have r1 := hb.r1
  have r4 := hb.r4
  have hl := hb.hl
  have st0 := hb.s0
  have st1 := hb.s1
  have hr := right_FR t1 t8 r1 r4
  have fi1 : (i : Int) < (N : Int) := by omega
  have fi2 : (i : Int) < 120 := by omega
  have ewi : IntKind.i64.wrap ((i : Int) + 1) = ((i + 1 : Nat) : Int) := by rw [wi64 (by omega) (by omega)]; omega
  obtain ⟨a1, a2⟩ := dli_step (R := R) (W := W) (st := st) t1 hlc.p1 hdl
  rw [hst, hd2] at a1 a2
  have hi8 : j0 ≤ 8 := by have h3 : j0 ≤ T := hdl.t8; omega
  have hc1 : r.s.ph ≠ 0 → LC T R r.s := fun q => by rw [← hst] at q ⊢; exact lStep_c hb hlc q
  obtain ⟨⟨ph', seq', j', fd', told', er', tm'⟩, wd', vl'⟩ := r
  dsimp only at e0 a1 a2 hc1 ht2 htn2
  subst ht2
  have htl : ph0 = 2 → d0.length ≤ j0 := fun _ => by have h3 := hdl.tl; have h4 := hdl.pm.length_eq; have h5 : d0.length = l0.length := h4; have h6 : l0.length ≤ j0 := h3; omega
  have hd0 : 0 < d0.length := by have h4 : d0.length = l0.length := hdl.pm.length_eq; have := htn _ rfl; omega
  have hd8 : d0.length < 1000000 := by have h3 := hdl.tl; have h4 : d0.length = l0.length := hdl.pm.length_eq; have h6 : l0.length ≤ j0 := h3; omega
  have hde := (a1 e0).e0
  rw [hde] at a1
  have hp1 := (hc1 e0).p1
  dsimp only at hp1
  have hP : FB T R W st ∧ LC T R ⟨ph0, seq0, j0, fd0, some l0, er0, tm0⟩ ∧ lStep T R ⟨ph0, seq0, j0, fd0, some l0, er0, tm0⟩ W st = ⟨⟨ph', seq', j', fd', none, er', tm'⟩, wd', vl'⟩ ∧ mvB ⟨ph0, seq0, j0, fd0, some l0, er0, tm0⟩ W = false ∧ j0 ≤ 8 := ⟨hb, hlc, hst, hmv, hi8⟩
  have hQ : FB T R W st ∧ LC T R ⟨ph0, seq0, j0, fd0, some l0, er0, tm0⟩ ∧ lStep T R ⟨ph0, seq0, j0, fd0, some l0, er0, tm0⟩ W st = ⟨⟨ph', seq', j', fd', none, er', tm'⟩, wd', vl'⟩ ∧ mvB ⟨ph0, seq0, j0, fd0, some l0, er0, tm0⟩ W = false ∧ (ph0 = 2 → d0.length ≤ j0) ∧ dLF ⟨ph0, seq0, j0, fd0, some l0, er0, tm0⟩ W (some d0) = none ∧ deL R ⟨ph0, seq0, j0, fd0, some l0, er0, tm0⟩ W 0 = 0 := ⟨hb, hlc, hst, hmv, htl, hd2, hde⟩
  refine ⟨⟨T, R, 0, f00, ⟨f00, 0, 0⟩, 0, 0, 0, false, ⟨ph0, seq0, j0, fd0, some l0, er0, tm0⟩, ⟨⟨ph', seq', j', fd', none, er', tm'⟩, wd', vl'⟩, some d0, none, 0, 2, 10⟩, ?_⟩
  have hX := hXPl ⟨T, R, 0, f00, ⟨f00, 0, 0⟩, 0, 0, 0, false, ⟨ph0, seq0, j0, fd0, some l0, er0, tm0⟩, ⟨⟨ph', seq', j', fd', none, er', tm'⟩, wd', vl'⟩, some d0, none, 0, 2, 10⟩
  have iv : PInv T R N (cRem 1 12 key) ⟨i + 1, ⟨W, (st + 1), 1, wd', vl', false, f, dp, ⟨ph', seq', j', fd', none, er', tm'⟩, (none)⟩⟩ := ⟨fb_st hb (by omega), by dsimp only; omega, hfc, hc1 e0, hk, hdf, a1 e0, htn2, by dsimp only; omega, by dsimp only; omega⟩
  have J := J ⟨T, R, 0, f00, ⟨f00, 0, 0⟩, 0, 0, 0, false, ⟨ph0, seq0, j0, fd0, some l0, er0, tm0⟩, ⟨⟨ph', seq', j', fd', none, er', tm'⟩, wd', vl'⟩, some d0, none, 0, 2, 10⟩ _ iv rfl
  dsimp only [ppT, pK, ppH] at J
  dsimp only [PU, ppU, pKa, ppH, acPO]
  refine sx hX [] 4000 rfl (by (simp [-List.getD_eq_getElem?_getD, -List.length_eq_zero_iff, conjP, hP.1, hP.2.1, hP.2.2.1, hP.2.2.2.1, hi8, hQ.2.2.2.2.2.1, hQ.2.2.2.2.2.2, hp1] <;> (first | omega | ((repeat' (refine And.intro ?_ ?_)) <;> (first | omega | exact decide_eq_false (by omega) | exact decide_eq_true (by omega)))))) ?_
  refine sx hX [.F] 4000 rfl (by (simp [-List.getD_eq_getElem?_getD, -List.length_eq_zero_iff, conjP, e0, hp1])) ?_
  refine sx hX [.F] 4000 rfl (by (simp [-List.getD_eq_getElem?_getD, -List.length_eq_zero_iff, conjP, addOP, e0])) ?_
  refine sx hX [.K, .K, .T, .K, .F, .K, .K, .F, .K, .K, .K, .F, .K, .F] 4000 rfl (by (simp [-List.getD_eq_getElem?_getD, -List.length_eq_zero_iff, conjP, e0, hp1])) ?_
  refine sx hX [.F] 4000 rfl (by (simp [-List.getD_eq_getElem?_getD, -List.length_eq_zero_iff, conjP, addOP, e0])) ?_
  refine sx hX [.K, .F] 4000 rfl (by (simp [-List.getD_eq_getElem?_getD, -List.length_eq_zero_iff, conjP, getH, HE.so])) ?_
  refine sx hX [.F] 4000 rfl (by (simp [-List.getD_eq_getElem?_getD, -List.length_eq_zero_iff, conjP, addOP])) ?_
  (refine J _ _ _ (sub_of [0, 1, 2, 3, 4, 5, 6, 7, 8, 9, 10, 11, 12] rfl rfl rfl rfl ?tt ?hh ?ot ?ok); (case tt => simp only [ewi]; exact clhP); (case hh => exact clhP); (case ot => exact clkP); (case ok => exact clkP))
set_option maxHeartbeats 4000000 in
theorem plD (h : PInv T R N (cRem 1 12 key) x) (hin : x.i < N) (hi : x.i < 120) {a : Nat} {l0 d0 : List Int} (ht : x.z.l.told = some l0) (hd : x.z.dL = some d0) (hmv : mvB x.z.l x.z.W = false) {r : LR} (hst : lStep T R x.z.l x.z.W x.z.st = r) (ht2 : r.s.told = some l0) (hd2 : dLF x.z.l x.z.W x.z.dL = some d0) (htn2 : ∀ l, r.s.told = some l → 0 < l.length) (e0 : ¬ r.s.ph = 0)
    (J : ∀ p, PJ p T R N cap key o x ρ w I) : ∃ p, PU 41 a p T R N cap key o x ρ w I := by
  have hk := h.fk
  have hs2 := h.s2
  have hb := h.b
  have hdf := h.df
  have hdl := h.dl
  have htn := h.tn
  have hfc := h.fc
  have hlc := h.lc
  obtain ⟨i, ⟨W, st, kd, wd, vl, ch, f, dp, l, dL⟩⟩ := x
  obtain ⟨ph0, seq0, j0, fd0, told0, er0, tm0⟩ := l
  dsimp only at hin hi hst ht hd hd2 hmv hk hs2 hb hdf hdl htn hfc hlc
  subst ht; subst hd
  have t1 := hb.t1
  have t8 := hb.t8
  have r1 := hb.r1
  have r4 := hb.r4
  have hl := hb.hl
  have st0 := hb.s0
  have st1 := hb.s1
  have hr := right_FR t1 t8 r1 r4
  have fi1 : (i : Int) < (N : Int) := by omega
  have fi2 : (i : Int) < 120 := by omega
  have ewi : IntKind.i64.wrap ((i : Int) + 1) = ((i + 1 : Nat) : Int) := by rw [wi64 (by omega) (by omega)]; omega
  obtain ⟨a1, a2⟩ := dli_step (R := R) (W := W) (st := st) t1 hlc.p1 hdl
  rw [hst, hd2] at a1 a2
  have hi8 : j0 ≤ 8 := by have h3 : j0 ≤ T := hdl.t8; omega
  have hc1 : r.s.ph ≠ 0 → LC T R r.s := fun q => by rw [← hst] at q ⊢; exact lStep_c hb hlc q
  obtain ⟨⟨ph', seq', j', fd', told', er', tm'⟩, wd', vl'⟩ := r
  dsimp only at e0 a1 a2 hc1 ht2 htn2
  subst ht2
  have htl : ph0 = 2 → d0.length ≤ j0 := fun _ => by have h3 := hdl.tl; have h4 := hdl.pm.length_eq; have h5 : d0.length = l0.length := h4; have h6 : l0.length ≤ j0 := h3; omega
  have hd0 : 0 < d0.length := by have h4 : d0.length = l0.length := hdl.pm.length_eq; have := htn _ rfl; omega
  have hd8 : d0.length < 1000000 := by have h3 := hdl.tl; have h4 : d0.length = l0.length := hdl.pm.length_eq; have h6 : l0.length ≤ j0 := h3; omega
  have hde := (a1 e0).e0
  rw [hde] at a1
  have hp1 := (hc1 e0).p1
  dsimp only at hp1
  have hP : FB T R W st ∧ LC T R ⟨ph0, seq0, j0, fd0, some l0, er0, tm0⟩ ∧ lStep T R ⟨ph0, seq0, j0, fd0, some l0, er0, tm0⟩ W st = ⟨⟨ph', seq', j', fd', some l0, er', tm'⟩, wd', vl'⟩ ∧ mvB ⟨ph0, seq0, j0, fd0, some l0, er0, tm0⟩ W = false ∧ j0 ≤ 8 := ⟨hb, hlc, hst, hmv, hi8⟩
  have hQ : FB T R W st ∧ LC T R ⟨ph0, seq0, j0, fd0, some l0, er0, tm0⟩ ∧ lStep T R ⟨ph0, seq0, j0, fd0, some l0, er0, tm0⟩ W st = ⟨⟨ph', seq', j', fd', some l0, er', tm'⟩, wd', vl'⟩ ∧ mvB ⟨ph0, seq0, j0, fd0, some l0, er0, tm0⟩ W = false ∧ (ph0 = 2 → d0.length ≤ j0) ∧ dLF ⟨ph0, seq0, j0, fd0, some l0, er0, tm0⟩ W (some d0) = some d0 ∧ deL R ⟨ph0, seq0, j0, fd0, some l0, er0, tm0⟩ W 0 = 0 := ⟨hb, hlc, hst, hmv, htl, hd2, hde⟩
  refine ⟨⟨T, R, 0, f00, ⟨f00, 0, 0⟩, 0, 0, 0, false, ⟨ph0, seq0, j0, fd0, some l0, er0, tm0⟩, ⟨⟨ph', seq', j', fd', some l0, er', tm'⟩, wd', vl'⟩, some d0, some d0, 0, 2, 10⟩, ?_⟩
  have hX := hXPl ⟨T, R, 0, f00, ⟨f00, 0, 0⟩, 0, 0, 0, false, ⟨ph0, seq0, j0, fd0, some l0, er0, tm0⟩, ⟨⟨ph', seq', j', fd', some l0, er', tm'⟩, wd', vl'⟩, some d0, some d0, 0, 2, 10⟩
  have iv : PInv T R N (cRem 1 12 key) ⟨i + 1, ⟨W, (st + 1), 1, wd', vl', false, f, dp, ⟨ph', seq', j', fd', some l0, er', tm'⟩, (some d0)⟩⟩ := ⟨fb_st hb (by omega), by dsimp only; omega, hfc, hc1 e0, hk, hdf, a1 e0, htn2, by dsimp only; omega, by dsimp only; omega⟩
  have J := J ⟨T, R, 0, f00, ⟨f00, 0, 0⟩, 0, 0, 0, false, ⟨ph0, seq0, j0, fd0, some l0, er0, tm0⟩, ⟨⟨ph', seq', j', fd', some l0, er', tm'⟩, wd', vl'⟩, some d0, some d0, 0, 2, 10⟩ _ iv rfl
  dsimp only [ppT, pK, ppH] at J
  dsimp only [PU, ppU, pKa, ppH, acPO]
  refine sx hX [] 4000 rfl (by (simp [-List.getD_eq_getElem?_getD, -List.length_eq_zero_iff, conjP, hP.1, hP.2.1, hP.2.2.1, hP.2.2.2.1, hi8, hQ.2.2.2.2.2.1, hQ.2.2.2.2.2.2, hp1] <;> (first | omega | ((repeat' (refine And.intro ?_ ?_)) <;> (first | omega | exact decide_eq_false (by omega) | exact decide_eq_true (by omega)))))) ?_
  refine sx hX [.F] 4000 rfl (by (simp [-List.getD_eq_getElem?_getD, -List.length_eq_zero_iff, conjP, e0, hp1])) ?_
  refine sx hX [.F] 4000 rfl (by (simp [-List.getD_eq_getElem?_getD, -List.length_eq_zero_iff, conjP, hd0, hd8, e0])) ?_
  refine sx hX [.K, .K, .T, .K, .F, .K, .K, .F, .K, .K, .K, .F, .K, .F] 4000 rfl (by (simp [-List.getD_eq_getElem?_getD, -List.length_eq_zero_iff, conjP, e0, hp1])) ?_
  refine sx hX [.F] 4000 rfl (by (simp [-List.getD_eq_getElem?_getD, -List.length_eq_zero_iff, conjP, addOP, e0])) ?_
  refine sx hX [.K, .F] 4000 rfl (by (simp [-List.getD_eq_getElem?_getD, -List.length_eq_zero_iff, conjP, getH, HE.so])) ?_
  refine sx hX [.F] 4000 rfl (by (simp [-List.getD_eq_getElem?_getD, -List.length_eq_zero_iff, conjP, addOP])) ?_
  (refine J _ _ _ (sub_of [0, 1, 2, 3, 4, 5, 6, 7, 8, 9, 10, 11, 12] rfl rfl rfl rfl ?tt ?hh ?ot ?ok); (case tt => simp only [ewi]; exact clhP); (case hh => exact clhP); (case ot => exact clkP); (case ok => exact clkP))
set_option maxHeartbeats 4000000 in
theorem plE (h : PInv T R N (cRem 1 12 key) x) (hin : x.i < N) (hi : x.i < 120) {a : Nat} {l0 d0 : List Int} {l' d' : List Int} (ht : x.z.l.told = some l0) (hd : x.z.dL = some d0) (hmv : mvB x.z.l x.z.W = true) {r : LR} (hst : lStep T R x.z.l x.z.W x.z.st = r) (ht2 : r.s.told = some l') (hd2 : dLF x.z.l x.z.W x.z.dL = some d') (htn2 : ∀ l, r.s.told = some l → 0 < l.length) (e0 : ¬ r.s.ph = 0)
    (J : ∀ p, PJ p T R N cap key o x ρ w I) : ∃ p, PU 41 a p T R N cap key o x ρ w I := by
  have hk := h.fk
  have hs2 := h.s2
  have hb := h.b
  have hdf := h.df
  have hdl := h.dl
  have htn := h.tn
  have hfc := h.fc
  have hlc := h.lc
  obtain ⟨i, ⟨W, st, kd, wd, vl, ch, f, dp, l, dL⟩⟩ := x
  obtain ⟨ph0, seq0, j0, fd0, told0, er0, tm0⟩ := l
  dsimp only at hin hi hst ht hd hd2 hmv hk hs2 hb hdf hdl htn hfc hlc
  subst ht; subst hd
  have t1 := hb.t1
  have t8 := hb.t8
  have r1 := hb.r1
  have r4 := hb.r4
  have hl := hb.hl
  have st0 := hb.s0
  have st1 := hb.s1
  have hr := right_FR t1 t8 r1 r4
  have fi1 : (i : Int) < (N : Int) := by omega
  have fi2 : (i : Int) < 120 := by omega
  have ewi : IntKind.i64.wrap ((i : Int) + 1) = ((i + 1 : Nat) : Int) := by rw [wi64 (by omega) (by omega)]; omega
  obtain ⟨a1, a2⟩ := dli_step (R := R) (W := W) (st := st) t1 hlc.p1 hdl
  rw [hst, hd2] at a1 a2
  have hi8 : j0 ≤ 8 := by have h3 : j0 ≤ T := hdl.t8; omega
  have hc1 : r.s.ph ≠ 0 → LC T R r.s := fun q => by rw [← hst] at q ⊢; exact lStep_c hb hlc q
  obtain ⟨⟨ph', seq', j', fd', told', er', tm'⟩, wd', vl'⟩ := r
  dsimp only at e0 a1 a2 hc1 ht2 htn2
  subst ht2
  have htl : ph0 = 2 → d0.length ≤ j0 := fun _ => by have h3 := hdl.tl; have h4 := hdl.pm.length_eq; have h5 : d0.length = l0.length := h4; have h6 : l0.length ≤ j0 := h3; omega
  have hd0 : 0 < d0.length := by have h4 : d0.length = l0.length := hdl.pm.length_eq; have := htn _ rfl; omega
  have hd8 : d0.length < 1000000 := by have h3 := hdl.tl; have h4 : d0.length = l0.length := hdl.pm.length_eq; have h6 : l0.length ≤ j0 := h3; omega
  have hde := (a1 e0).e0
  rw [hde] at a1
  have hp1 := (hc1 e0).p1
  dsimp only at hp1
  have hd1 : 0 < d'.length := by have h4 : d'.length = l'.length := (a1 e0).pm.length_eq; have := htn2 _ rfl; omega
  have hd9 : d'.length < 1000000 := by have h3 := (a1 e0).tl; have h7 : j' ≤ T := (a1 e0).t8; have h4 : d'.length = l'.length := (a1 e0).pm.length_eq; have h6 : l'.length ≤ j' := h3; omega
  have hP : FB T R W st ∧ LC T R ⟨ph0, seq0, j0, fd0, some l0, er0, tm0⟩ ∧ lStep T R ⟨ph0, seq0, j0, fd0, some l0, er0, tm0⟩ W st = ⟨⟨ph', seq', j', fd', some l', er', tm'⟩, wd', vl'⟩ ∧ mvB ⟨ph0, seq0, j0, fd0, some l0, er0, tm0⟩ W = true ∧ j0 ≤ 8 := ⟨hb, hlc, hst, hmv, hi8⟩
  have hQ : FB T R W st ∧ LC T R ⟨ph0, seq0, j0, fd0, some l0, er0, tm0⟩ ∧ lStep T R ⟨ph0, seq0, j0, fd0, some l0, er0, tm0⟩ W st = ⟨⟨ph', seq', j', fd', some l', er', tm'⟩, wd', vl'⟩ ∧ mvB ⟨ph0, seq0, j0, fd0, some l0, er0, tm0⟩ W = true ∧ (ph0 = 2 → d0.length ≤ j0) ∧ dLF ⟨ph0, seq0, j0, fd0, some l0, er0, tm0⟩ W (some d0) = some d' ∧ deL R ⟨ph0, seq0, j0, fd0, some l0, er0, tm0⟩ W 0 = 0 := ⟨hb, hlc, hst, hmv, htl, hd2, hde⟩
  refine ⟨⟨T, R, 0, f00, ⟨f00, 0, 0⟩, 0, 0, 0, true, ⟨ph0, seq0, j0, fd0, some l0, er0, tm0⟩, ⟨⟨ph', seq', j', fd', some l', er', tm'⟩, wd', vl'⟩, some d0, some d', 0, 2, 14⟩, ?_⟩
  have hX := hXPl ⟨T, R, 0, f00, ⟨f00, 0, 0⟩, 0, 0, 0, true, ⟨ph0, seq0, j0, fd0, some l0, er0, tm0⟩, ⟨⟨ph', seq', j', fd', some l', er', tm'⟩, wd', vl'⟩, some d0, some d', 0, 2, 14⟩
  have iv : PInv T R N (cRem 1 12 key) ⟨i + 1, ⟨W, (st + 1), 1, wd', vl', false, f, dp, ⟨ph', seq', j', fd', some l', er', tm'⟩, (some d')⟩⟩ := ⟨fb_st hb (by omega), by dsimp only; omega, hfc, hc1 e0, hk, hdf, a1 e0, htn2, by dsimp only; omega, by dsimp only; omega⟩
  have J := J ⟨T, R, 0, f00, ⟨f00, 0, 0⟩, 0, 0, 0, true, ⟨ph0, seq0, j0, fd0, some l0, er0, tm0⟩, ⟨⟨ph', seq', j', fd', some l', er', tm'⟩, wd', vl'⟩, some d0, some d', 0, 2, 14⟩ _ iv rfl
  dsimp only [ppT, pK, ppH] at J
  dsimp only [PU, ppU, pKa, ppH, acPO]
  refine sx hX [] 4000 rfl (by (simp [-List.getD_eq_getElem?_getD, -List.length_eq_zero_iff, conjP, hP.1, hP.2.1, hP.2.2.1, hP.2.2.2.1, hi8, hQ.2.2.2.2.2.1, hQ.2.2.2.2.2.2, hp1] <;> (first | omega | ((repeat' (refine And.intro ?_ ?_)) <;> (first | omega | exact decide_eq_false (by omega) | exact decide_eq_true (by omega)))))) ?_
  refine sx hX [.F] 4000 rfl (by (simp [-List.getD_eq_getElem?_getD, -List.length_eq_zero_iff, conjP, e0, hp1])) ?_
  refine sx hX [.F] 4000 rfl (by (simp [-List.getD_eq_getElem?_getD, -List.length_eq_zero_iff, conjP, e0, hd1, hd9])) ?_
  refine sx hX [.K, .K, .T, .K, .F, .K, .K, .F, .K, .K, .K, .F, .K, .F] 4000 rfl (by (simp [-List.getD_eq_getElem?_getD, -List.length_eq_zero_iff, conjP, e0, hp1])) ?_
  refine sx hX [.F] 4000 rfl (by (simp [-List.getD_eq_getElem?_getD, -List.length_eq_zero_iff, conjP, addOP, e0])) ?_
  refine sx hX [.K, .F] 4000 rfl (by (simp [-List.getD_eq_getElem?_getD, -List.length_eq_zero_iff, conjP, getH, HE.so])) ?_
  refine sx hX [.F] 4000 rfl (by (simp [-List.getD_eq_getElem?_getD, -List.length_eq_zero_iff, conjP, addOP])) ?_
  (refine J _ _ _ (sub_of [0, 1, 2, 3, 4, 5, 6, 7, 8, 9, 14, 11, 15] rfl rfl rfl rfl ?tt ?hh ?ot ?ok); (case tt => simp only [ewi]; exact clhP); (case hh => exact clhP); (case ot => exact clkP); (case ok => exact clkP))
set_option maxHeartbeats 4000000 in
theorem plF (h : PInv T R N (cRem 1 12 key) x) (hin : x.i < N) (hi : x.i < 120) {a : Nat} (ht : x.z.l.told = none) (hd : x.z.dL = none) (hmv : mvB x.z.l x.z.W = false) {r : LR} (hst : lStep T R x.z.l x.z.W x.z.st = r) (ht2 : r.s.told = none) (hd2 : dLF x.z.l x.z.W x.z.dL = none) (htn2 : ∀ l, r.s.told = some l → 0 < l.length) (e0 : r.s.ph = 0) (e1 : r.s.er = 0)
    (J : ∀ p, PJ p T R N cap key o x ρ w I) : ∃ p, PU 41 a p T R N cap key o x ρ w I := by
  have hk := h.fk
  have hs2 := h.s2
  have hb := h.b
  have hdf := h.df
  have hdl := h.dl
  have htn := h.tn
  have hfc := h.fc
  have hlc := h.lc
  obtain ⟨i, ⟨W, st, kd, wd, vl, ch, f, dp, l, dL⟩⟩ := x
  obtain ⟨ph0, seq0, j0, fd0, told0, er0, tm0⟩ := l
  dsimp only at hin hi hst ht hd hd2 hmv hk hs2 hb hdf hdl htn hfc hlc
  subst ht; subst hd
  have t1 := hb.t1
  have t8 := hb.t8
  have r1 := hb.r1
  have r4 := hb.r4
  have hl := hb.hl
  have st0 := hb.s0
  have st1 := hb.s1
  have hr := right_FR t1 t8 r1 r4
  have fi1 : (i : Int) < (N : Int) := by omega
  have fi2 : (i : Int) < 120 := by omega
  have ewi : IntKind.i64.wrap ((i : Int) + 1) = ((i + 1 : Nat) : Int) := by rw [wi64 (by omega) (by omega)]; omega
  obtain ⟨a1, a2⟩ := dli_step (R := R) (W := W) (st := st) t1 hlc.p1 hdl
  rw [hst, hd2] at a1 a2
  have hi8 : j0 ≤ 8 := by have h3 : j0 ≤ T := hdl.t8; omega
  have hc1 : r.s.ph ≠ 0 → LC T R r.s := fun q => by rw [← hst] at q ⊢; exact lStep_c hb hlc q
  obtain ⟨⟨ph', seq', j', fd', told', er', tm'⟩, wd', vl'⟩ := r
  dsimp only at e0 e1 a1 a2 hc1 ht2 htn2
  subst ht2
  subst e0; subst e1
  have hde := (a2 rfl).2.1
  have eL : lsC (T : Int) R 9 14 ⟨0, seq', j', fd', none, 0, tm'⟩ = lsC (T : Int) R 9 10 ⟨0, seq', j', fd', none, 0, tm'⟩ := rfl
  have hP : FB T R W st ∧ LC T R ⟨ph0, seq0, j0, fd0, none, er0, tm0⟩ ∧ lStep T R ⟨ph0, seq0, j0, fd0, none, er0, tm0⟩ W st = ⟨⟨0, seq', j', fd', none, 0, tm'⟩, wd', vl'⟩ ∧ mvB ⟨ph0, seq0, j0, fd0, none, er0, tm0⟩ W = false := ⟨hb, hlc, hst, hmv⟩
  have hQ : FB T R W st ∧ LC T R ⟨ph0, seq0, j0, fd0, none, er0, tm0⟩ ∧ lStep T R ⟨ph0, seq0, j0, fd0, none, er0, tm0⟩ W st = ⟨⟨0, seq', j', fd', none, 0, tm'⟩, wd', vl'⟩ ∧ mvB ⟨ph0, seq0, j0, fd0, none, er0, tm0⟩ W = false ∧ dLF ⟨ph0, seq0, j0, fd0, none, er0, tm0⟩ W (none) = none ∧ deL R ⟨ph0, seq0, j0, fd0, none, er0, tm0⟩ W 0 = 0 := ⟨hb, hlc, hst, hmv, hd2, hde⟩
  refine ⟨⟨T, R, 0, f00, ⟨f00, 0, 0⟩, 0, 0, 0, false, ⟨ph0, seq0, j0, fd0, none, er0, tm0⟩, ⟨⟨0, seq', j', fd', none, 0, tm'⟩, wd', vl'⟩, none, none, 0, 0, 10⟩, ?_⟩
  have hX := hXPl ⟨T, R, 0, f00, ⟨f00, 0, 0⟩, 0, 0, 0, false, ⟨ph0, seq0, j0, fd0, none, er0, tm0⟩, ⟨⟨0, seq', j', fd', none, 0, tm'⟩, wd', vl'⟩, none, none, 0, 0, 10⟩
  have iv : PInv T R N (cRem 1 12 key) ⟨i + 1, ⟨W, (st + 1), 1, wd', vl', false, f, dp, ⟨1, 0, 0, 0, none, 0, 0⟩, none⟩⟩ := ⟨fb_st hb (by omega), by dsimp only; omega, hfc, lc_new r1, hk, hdf, dl_new t1, (fun l q => by cases q), by dsimp only; omega, by dsimp only; omega⟩
  have J := J ⟨T, R, 0, f00, ⟨f00, 0, 0⟩, 0, 0, 0, false, ⟨ph0, seq0, j0, fd0, none, er0, tm0⟩, ⟨⟨0, seq', j', fd', none, 0, tm'⟩, wd', vl'⟩, none, none, 0, 0, 10⟩ _ iv rfl
  dsimp only [ppT, pK, ppH] at J
  dsimp only [PU, ppU, pKa, ppH, acPO]
  refine sx hX [] 4000 rfl (by (simp [-List.getD_eq_getElem?_getD, -List.length_eq_zero_iff, conjP, hP.1, hP.2.1, hP.2.2.1, hP.2.2.2, hQ.2.2.2.2.1, hQ.2.2.2.2.2, eL])) ?_
  refine sx hX [.F] 4000 rfl (by (simp [-List.getD_eq_getElem?_getD, -List.length_eq_zero_iff, conjP])) ?_
  refine sx hX [.F] 4000 rfl (by (simp [-List.getD_eq_getElem?_getD, -List.length_eq_zero_iff, conjP, addOP])) ?_
  refine sx hX [.K, .K, .F, .K, .T, .K, .K, .F] 4000 rfl (by (simp [-List.getD_eq_getElem?_getD, -List.length_eq_zero_iff, conjP, getH, HE.so])) ?_
  refine sx hX [.F] 4000 rfl (by (simp [-List.getD_eq_getElem?_getD, -List.length_eq_zero_iff, conjP, addOP])) ?_
  refine sx hX [.T] 4000 rfl (by (simp [-List.getD_eq_getElem?_getD, -List.length_eq_zero_iff, conjP, addOP])) ?_
  refine sx hX [.F] 4000 rfl (by (simp [-List.getD_eq_getElem?_getD, -List.length_eq_zero_iff, conjP, addOP, hr])) ?_
  refine sx hX [.F] 4000 rfl (by (simp [-List.getD_eq_getElem?_getD, -List.length_eq_zero_iff, conjP, addOP, hr])) ?_
  refine sx hX [.K, .F] 4000 rfl (by (simp [-List.getD_eq_getElem?_getD, -List.length_eq_zero_iff, conjP, getH, HE.so])) ?_
  refine sx hX [.F] 4000 rfl (by (simp [-List.getD_eq_getElem?_getD, -List.length_eq_zero_iff, conjP, addOP])) ?_
  (refine J _ _ _ (sub_of [0, 1, 2, 3, 4, 5, 6, 7, 8, 16, 10, 18, 12] rfl rfl rfl rfl ?tt ?hh ?ot ?ok); (case tt => simp only [ewi]; exact clhP); (case hh => exact clhP); (case ot => exact clkP); (case ok => exact clkP))
set_option maxHeartbeats 4000000 in
theorem plG (h : PInv T R N (cRem 1 12 key) x) (hin : x.i < N) (hi : x.i < 120) {a : Nat} {l0 d0 : List Int} (ht : x.z.l.told = some l0) (hd : x.z.dL = some d0) (hmv : mvB x.z.l x.z.W = false) {r : LR} (hst : lStep T R x.z.l x.z.W x.z.st = r) (ht2 : r.s.told = some l0) (hd2 : dLF x.z.l x.z.W x.z.dL = some d0) (htn2 : ∀ l, r.s.told = some l → 0 < l.length) (e0 : r.s.ph = 0) (e1 : r.s.er = 0)
    (J : ∀ p, PJ p T R N cap key o x ρ w I) : ∃ p, PU 41 a p T R N cap key o x ρ w I := by
  have hk := h.fk
  have hs2 := h.s2
  have hb := h.b
  have hdf := h.df
  have hdl := h.dl
  have htn := h.tn
  have hfc := h.fc
  have hlc := h.lc
  obtain ⟨i, ⟨W, st, kd, wd, vl, ch, f, dp, l, dL⟩⟩ := x
  obtain ⟨ph0, seq0, j0, fd0, told0, er0, tm0⟩ := l
  dsimp only at hin hi hst ht hd hd2 hmv hk hs2 hb hdf hdl htn hfc hlc
  subst ht; subst hd
  have t1 := hb.t1
  have t8 := hb.t8
  have r1 := hb.r1
  have r4 := hb.r4
  have hl := hb.hl
  have st0 := hb.s0
  have st1 := hb.s1
  have hr := right_FR t1 t8 r1 r4
  have fi1 : (i : Int) < (N : Int) := by omega
  have fi2 : (i : Int) < 120 := by omega
  have ewi : IntKind.i64.wrap ((i : Int) + 1) = ((i + 1 : Nat) : Int) := by rw [wi64 (by omega) (by omega)]; omega
  obtain ⟨a1, a2⟩ := dli_step (R := R) (W := W) (st := st) t1 hlc.p1 hdl
  rw [hst, hd2] at a1 a2
  have hi8 : j0 ≤ 8 := by have h3 : j0 ≤ T := hdl.t8; omega
  have hc1 : r.s.ph ≠ 0 → LC T R r.s := fun q => by rw [← hst] at q ⊢; exact lStep_c hb hlc q
  obtain ⟨⟨ph', seq', j', fd', told', er', tm'⟩, wd', vl'⟩ := r
  dsimp only at e0 e1 a1 a2 hc1 ht2 htn2
  subst ht2
  subst e0; subst e1
  have htl : ph0 = 2 → d0.length ≤ j0 := fun _ => by have h3 := hdl.tl; have h4 := hdl.pm.length_eq; have h5 : d0.length = l0.length := h4; have h6 : l0.length ≤ j0 := h3; omega
  have hd0 : 0 < d0.length := by have h4 : d0.length = l0.length := hdl.pm.length_eq; have := htn _ rfl; omega
  have hd8 : d0.length < 1000000 := by have h3 := hdl.tl; have h4 : d0.length = l0.length := hdl.pm.length_eq; have h6 : l0.length ≤ j0 := h3; omega
  have hde := (a2 rfl).2.1
  have h0l : 0 < l0.length := htn _ rfl
  have h12 : l0.length ≤ 12 := by have h3 := hdl.tl; have h6 : l0.length ≤ j0 := h3; omega
  have hsr : srt l0 = d0 := by rcases (a2 rfl).2.2 with q | q; exact q.2.1; exact absurd q.1 (by decide)
  have hs7 : d0.length = l0.length := hdl.pm.length_eq
  have hs9 : (srt l0).length < 1000000 := by rw [hsr]; exact hd8
  have hs8 : l0.length = (srt l0).length := by rw [hsr]; exact hdl.pm.length_eq.symm
  have hP : FB T R W st ∧ LC T R ⟨ph0, seq0, j0, fd0, some l0, er0, tm0⟩ ∧ lStep T R ⟨ph0, seq0, j0, fd0, some l0, er0, tm0⟩ W st = ⟨⟨0, seq', j', fd', some l0, 0, tm'⟩, wd', vl'⟩ ∧ mvB ⟨ph0, seq0, j0, fd0, some l0, er0, tm0⟩ W = false ∧ j0 ≤ 8 := ⟨hb, hlc, hst, hmv, hi8⟩
  have hQ : FB T R W st ∧ LC T R ⟨ph0, seq0, j0, fd0, some l0, er0, tm0⟩ ∧ lStep T R ⟨ph0, seq0, j0, fd0, some l0, er0, tm0⟩ W st = ⟨⟨0, seq', j', fd', some l0, 0, tm'⟩, wd', vl'⟩ ∧ mvB ⟨ph0, seq0, j0, fd0, some l0, er0, tm0⟩ W = false ∧ (ph0 = 2 → d0.length ≤ j0) ∧ dLF ⟨ph0, seq0, j0, fd0, some l0, er0, tm0⟩ W (some d0) = some d0 ∧ deL R ⟨ph0, seq0, j0, fd0, some l0, er0, tm0⟩ W 0 = 0 := ⟨hb, hlc, hst, hmv, htl, hd2, hde⟩
  refine ⟨⟨T, R, 0, f00, ⟨f00, 0, 0⟩, 0, 0, 0, false, ⟨ph0, seq0, j0, fd0, some l0, er0, tm0⟩, ⟨⟨0, seq', j', fd', some l0, 0, tm'⟩, wd', vl'⟩, some d0, some d0, 0, 0, 10⟩, ?_⟩
  have hX := hXPl ⟨T, R, 0, f00, ⟨f00, 0, 0⟩, 0, 0, 0, false, ⟨ph0, seq0, j0, fd0, some l0, er0, tm0⟩, ⟨⟨0, seq', j', fd', some l0, 0, tm'⟩, wd', vl'⟩, some d0, some d0, 0, 0, 10⟩
  have iv : PInv T R N (cRem 1 12 key) ⟨i + 1, ⟨W, (st + 1), 1, wd', vl', false, f, dp, ⟨1, 0, 0, 0, none, 0, 0⟩, none⟩⟩ := ⟨fb_st hb (by omega), by dsimp only; omega, hfc, lc_new r1, hk, hdf, dl_new t1, (fun l q => by cases q), by dsimp only; omega, by dsimp only; omega⟩
  have J := J ⟨T, R, 0, f00, ⟨f00, 0, 0⟩, 0, 0, 0, false, ⟨ph0, seq0, j0, fd0, some l0, er0, tm0⟩, ⟨⟨0, seq', j', fd', some l0, 0, tm'⟩, wd', vl'⟩, some d0, some d0, 0, 0, 10⟩ _ iv rfl
  dsimp only [ppT, pK, ppH] at J
  dsimp only [PU, ppU, pKa, ppH, acPO]
  refine sx hX [] 4000 rfl (by (simp [-List.getD_eq_getElem?_getD, -List.length_eq_zero_iff, conjP, hP.1, hP.2.1, hP.2.2.1, hP.2.2.2.1, hi8, hd0, hQ.2.2.2.2.2.1, hQ.2.2.2.2.2.2, hsr, hs8] <;> (first | omega | ((repeat' (refine And.intro ?_ ?_)) <;> (first | omega | exact decide_eq_false (by omega) | exact decide_eq_true (by omega)))))) ?_
  refine sx hX [.F] 4000 rfl (by (simp [-List.getD_eq_getElem?_getD, -List.length_eq_zero_iff, conjP])) ?_
  refine sx hX [.F] 4000 rfl (by (simp [-List.getD_eq_getElem?_getD, -List.length_eq_zero_iff, conjP, hd8, hsr, hs8])) ?_
  refine sx hX [.K, .K, .F, .K, .T, .K, .K, .F, .K, .K, .F] 4000 rfl (by (simp [-List.getD_eq_getElem?_getD, -List.length_eq_zero_iff, conjP, getH, HE.so, hsr])) ?_
  refine sx hX [.F] 4000 rfl (by (simp [-List.getD_eq_getElem?_getD, -List.length_eq_zero_iff, conjP, addOP])) ?_
  refine sx hX [.T] 4000 rfl (by (simp [-List.getD_eq_getElem?_getD, -List.length_eq_zero_iff, conjP, addOP])) ?_
  refine sx hX [.F] 4000 rfl (by (simp [-List.getD_eq_getElem?_getD, -List.length_eq_zero_iff, conjP, addOP, hr])) ?_
  refine sx hX [.F] 4000 rfl (by (simp [-List.getD_eq_getElem?_getD, -List.length_eq_zero_iff, conjP, addOP, hr])) ?_
  refine sx hX [.K, .F] 4000 rfl (by (simp [-List.getD_eq_getElem?_getD, -List.length_eq_zero_iff, conjP, getH, HE.so])) ?_
  refine sx hX [.F] 4000 rfl (by (simp [-List.getD_eq_getElem?_getD, -List.length_eq_zero_iff, conjP, addOP])) ?_
  (refine J _ _ _ (sub_of [0, 1, 2, 3, 4, 5, 6, 7, 8, 17, 10, 19, 12] rfl rfl rfl rfl ?tt ?hh ?ot ?ok); (case tt => simp only [ewi]; exact clhP); (case hh => exact clhP); (case ot => exact clkP); (case ok => exact clkP))
set_option maxHeartbeats 4000000 in
theorem plH (h : PInv T R N (cRem 1 12 key) x) (hin : x.i < N) (hi : x.i < 120) {a : Nat} (ht : x.z.l.told = none) (hd : x.z.dL = none) (hmv : mvB x.z.l x.z.W = false) {r : LR} (hst : lStep T R x.z.l x.z.W x.z.st = r) (ht2 : r.s.told = none) (hd2 : dLF x.z.l x.z.W x.z.dL = none) (htn2 : ∀ l, r.s.told = some l → 0 < l.length) (e0 : r.s.ph = 0) (e1 : ¬ r.s.er = 0)
    (J : ∀ p, PJ p T R N cap key o x ρ w I) : ∃ p, PU 41 a p T R N cap key o x ρ w I := by
  have hk := h.fk
  have hs2 := h.s2
  have hb := h.b
  have hdf := h.df
  have hdl := h.dl
  have htn := h.tn
  have hfc := h.fc
  have hlc := h.lc
  obtain ⟨i, ⟨W, st, kd, wd, vl, ch, f, dp, l, dL⟩⟩ := x
  obtain ⟨ph0, seq0, j0, fd0, told0, er0, tm0⟩ := l
  dsimp only at hin hi hst ht hd hd2 hmv hk hs2 hb hdf hdl htn hfc hlc
  subst ht; subst hd
  have t1 := hb.t1
  have t8 := hb.t8
  have r1 := hb.r1
  have r4 := hb.r4
  have hl := hb.hl
  have st0 := hb.s0
  have st1 := hb.s1
  have hr := right_FR t1 t8 r1 r4
  have fi1 : (i : Int) < (N : Int) := by omega
  have fi2 : (i : Int) < 120 := by omega
  have ewi : IntKind.i64.wrap ((i : Int) + 1) = ((i + 1 : Nat) : Int) := by rw [wi64 (by omega) (by omega)]; omega
  obtain ⟨a1, a2⟩ := dli_step (R := R) (W := W) (st := st) t1 hlc.p1 hdl
  rw [hst, hd2] at a1 a2
  have hi8 : j0 ≤ 8 := by have h3 : j0 ≤ T := hdl.t8; omega
  have hc1 : r.s.ph ≠ 0 → LC T R r.s := fun q => by rw [← hst] at q ⊢; exact lStep_c hb hlc q
  obtain ⟨⟨ph', seq', j', fd', told', er', tm'⟩, wd', vl'⟩ := r
  dsimp only at e0 e1 a1 a2 hc1 ht2 htn2
  subst ht2
  subst e0
  have e17 : er' = 17 := by rcases (a2 rfl).2.2 with q | q; exact absurd q.1 e1; exact q.1
  subst e17
  have hde := (a2 rfl).2.1
  have eL : lsC (T : Int) R 9 14 ⟨0, seq', j', fd', none, 17, tm'⟩ = lsC (T : Int) R 9 10 ⟨0, seq', j', fd', none, 17, tm'⟩ := rfl
  have hP : FB T R W st ∧ LC T R ⟨ph0, seq0, j0, fd0, none, er0, tm0⟩ ∧ lStep T R ⟨ph0, seq0, j0, fd0, none, er0, tm0⟩ W st = ⟨⟨0, seq', j', fd', none, 17, tm'⟩, wd', vl'⟩ ∧ mvB ⟨ph0, seq0, j0, fd0, none, er0, tm0⟩ W = false := ⟨hb, hlc, hst, hmv⟩
  have hQ : FB T R W st ∧ LC T R ⟨ph0, seq0, j0, fd0, none, er0, tm0⟩ ∧ lStep T R ⟨ph0, seq0, j0, fd0, none, er0, tm0⟩ W st = ⟨⟨0, seq', j', fd', none, 17, tm'⟩, wd', vl'⟩ ∧ mvB ⟨ph0, seq0, j0, fd0, none, er0, tm0⟩ W = false ∧ dLF ⟨ph0, seq0, j0, fd0, none, er0, tm0⟩ W (none) = none ∧ deL R ⟨ph0, seq0, j0, fd0, none, er0, tm0⟩ W 0 = 17 := ⟨hb, hlc, hst, hmv, hd2, hde⟩
  refine ⟨⟨T, R, 0, f00, ⟨f00, 0, 0⟩, 0, 0, 0, false, ⟨ph0, seq0, j0, fd0, none, er0, tm0⟩, ⟨⟨0, seq', j', fd', none, 17, tm'⟩, wd', vl'⟩, none, none, 17, 1, 10⟩, ?_⟩
  have hX := hXPl ⟨T, R, 0, f00, ⟨f00, 0, 0⟩, 0, 0, 0, false, ⟨ph0, seq0, j0, fd0, none, er0, tm0⟩, ⟨⟨0, seq', j', fd', none, 17, tm'⟩, wd', vl'⟩, none, none, 17, 1, 10⟩
  have iv : PInv T R N (cRem 1 12 key) ⟨i + 1, ⟨W, (st + 1), 1, wd', vl', false, f, dp, ⟨1, 0, 0, 0, none, 0, 0⟩, none⟩⟩ := ⟨fb_st hb (by omega), by dsimp only; omega, hfc, lc_new r1, hk, hdf, dl_new t1, (fun l q => by cases q), by dsimp only; omega, by dsimp only; omega⟩
  have J := J ⟨T, R, 0, f00, ⟨f00, 0, 0⟩, 0, 0, 0, false, ⟨ph0, seq0, j0, fd0, none, er0, tm0⟩, ⟨⟨0, seq', j', fd', none, 17, tm'⟩, wd', vl'⟩, none, none, 17, 1, 10⟩ _ iv rfl
  dsimp only [ppT, pK, ppH] at J
  dsimp only [PU, ppU, pKa, ppH, acPO]
  refine sx hX [] 4000 rfl (by (simp [-List.getD_eq_getElem?_getD, -List.length_eq_zero_iff, conjP, hP.1, hP.2.1, hP.2.2.1, hP.2.2.2, hQ.2.2.2.2.1, hQ.2.2.2.2.2, eL])) ?_
  refine sx hX [.F] 4000 rfl (by (simp [-List.getD_eq_getElem?_getD, -List.length_eq_zero_iff, conjP])) ?_
  refine sx hX [.F] 4000 rfl (by (simp [-List.getD_eq_getElem?_getD, -List.length_eq_zero_iff, conjP, addOP])) ?_
  refine sx hX [.K, .K, .F, .K, .T, .K, .K, .F] 4000 rfl (by (simp [-List.getD_eq_getElem?_getD, -List.length_eq_zero_iff, conjP, getH, HE.so])) ?_
  refine sx hX [.F] 4000 rfl (by (simp [-List.getD_eq_getElem?_getD, -List.length_eq_zero_iff, conjP, addOP])) ?_
  refine sx hX [.T] 4000 rfl (by (simp [-List.getD_eq_getElem?_getD, -List.length_eq_zero_iff, conjP, addOP])) ?_
  refine sx hX [.F] 4000 rfl (by (simp [-List.getD_eq_getElem?_getD, -List.length_eq_zero_iff, conjP, addOP, hr])) ?_
  refine sx hX [.F] 4000 rfl (by (simp [-List.getD_eq_getElem?_getD, -List.length_eq_zero_iff, conjP, addOP, hr])) ?_
  refine sx hX [.K, .F] 4000 rfl (by (simp [-List.getD_eq_getElem?_getD, -List.length_eq_zero_iff, conjP, getH, HE.so])) ?_
  refine sx hX [.F] 4000 rfl (by (simp [-List.getD_eq_getElem?_getD, -List.length_eq_zero_iff, conjP, addOP])) ?_
  (refine J _ _ _ (sub_of [0, 1, 2, 3, 4, 5, 6, 7, 8, 16, 10, 18, 12] rfl rfl rfl rfl ?tt ?hh ?ot ?ok); (case tt => simp only [ewi]; exact clhP); (case hh => exact clhP); (case ot => exact clkP); (case ok => exact clkP))
set_option maxHeartbeats 4000000 in
theorem plI (h : PInv T R N (cRem 1 12 key) x) (hin : x.i < N) (hi : x.i < 120) {a : Nat} {l0 d0 : List Int} (ht : x.z.l.told = some l0) (hd : x.z.dL = some d0) (hmv : mvB x.z.l x.z.W = false) {r : LR} (hst : lStep T R x.z.l x.z.W x.z.st = r) (ht2 : r.s.told = none) (hd2 : dLF x.z.l x.z.W x.z.dL = none) (htn2 : ∀ l, r.s.told = some l → 0 < l.length) (e0 : r.s.ph = 0) (e1 : ¬ r.s.er = 0)
    (J : ∀ p, PJ p T R N cap key o x ρ w I) : ∃ p, PU 41 a p T R N cap key o x ρ w I := by
  have hk := h.fk
  have hs2 := h.s2
  have hb := h.b
  have hdf := h.df
  have hdl := h.dl
  have htn := h.tn
  have hfc := h.fc
  have hlc := h.lc
  obtain ⟨i, ⟨W, st, kd, wd, vl, ch, f, dp, l, dL⟩⟩ := x
  obtain ⟨ph0, seq0, j0, fd0, told0, er0, tm0⟩ := l
  dsimp only at hin hi hst ht hd hd2 hmv hk hs2 hb hdf hdl htn hfc hlc
  subst ht; subst hd
  have t1 := hb.t1
  have t8 := hb.t8
  have r1 := hb.r1
  have r4 := hb.r4
  have hl := hb.hl
  have st0 := hb.s0
  have st1 := hb.s1
  have hr := right_FR t1 t8 r1 r4
  have fi1 : (i : Int) < (N : Int) := by omega
  have fi2 : (i : Int) < 120 := by omega
  have ewi : IntKind.i64.wrap ((i : Int) + 1) = ((i + 1 : Nat) : Int) := by rw [wi64 (by omega) (by omega)]; omega
  obtain ⟨a1, a2⟩ := dli_step (R := R) (W := W) (st := st) t1 hlc.p1 hdl
  rw [hst, hd2] at a1 a2
  have hi8 : j0 ≤ 8 := by have h3 : j0 ≤ T := hdl.t8; omega
  have hc1 : r.s.ph ≠ 0 → LC T R r.s := fun q => by rw [← hst] at q ⊢; exact lStep_c hb hlc q
  obtain ⟨⟨ph', seq', j', fd', told', er', tm'⟩, wd', vl'⟩ := r
  dsimp only at e0 e1 a1 a2 hc1 ht2 htn2
  subst ht2
  subst e0
  have htl : ph0 = 2 → d0.length ≤ j0 := fun _ => by have h3 := hdl.tl; have h4 := hdl.pm.length_eq; have h5 : d0.length = l0.length := h4; have h6 : l0.length ≤ j0 := h3; omega
  have hd0 : 0 < d0.length := by have h4 : d0.length = l0.length := hdl.pm.length_eq; have := htn _ rfl; omega
  have hd8 : d0.length < 1000000 := by have h3 := hdl.tl; have h4 : d0.length = l0.length := hdl.pm.length_eq; have h6 : l0.length ≤ j0 := h3; omega
  have e17 : er' = 17 := by rcases (a2 rfl).2.2 with q | q; exact absurd q.1 e1; exact q.1
  subst e17
  have hde := (a2 rfl).2.1
  have hP : FB T R W st ∧ LC T R ⟨ph0, seq0, j0, fd0, some l0, er0, tm0⟩ ∧ lStep T R ⟨ph0, seq0, j0, fd0, some l0, er0, tm0⟩ W st = ⟨⟨0, seq', j', fd', none, 17, tm'⟩, wd', vl'⟩ ∧ mvB ⟨ph0, seq0, j0, fd0, some l0, er0, tm0⟩ W = false ∧ j0 ≤ 8 := ⟨hb, hlc, hst, hmv, hi8⟩
  have hQ : FB T R W st ∧ LC T R ⟨ph0, seq0, j0, fd0, some l0, er0, tm0⟩ ∧ lStep T R ⟨ph0, seq0, j0, fd0, some l0, er0, tm0⟩ W st = ⟨⟨0, seq', j', fd', none, 17, tm'⟩, wd', vl'⟩ ∧ mvB ⟨ph0, seq0, j0, fd0, some l0, er0, tm0⟩ W = false ∧ (ph0 = 2 → d0.length ≤ j0) ∧ dLF ⟨ph0, seq0, j0, fd0, some l0, er0, tm0⟩ W (some d0) = none ∧ deL R ⟨ph0, seq0, j0, fd0, some l0, er0, tm0⟩ W 0 = 17 := ⟨hb, hlc, hst, hmv, htl, hd2, hde⟩
  refine ⟨⟨T, R, 0, f00, ⟨f00, 0, 0⟩, 0, 0, 0, false, ⟨ph0, seq0, j0, fd0, some l0, er0, tm0⟩, ⟨⟨0, seq', j', fd', none, 17, tm'⟩, wd', vl'⟩, some d0, none, 17, 1, 10⟩, ?_⟩
  have hX := hXPl ⟨T, R, 0, f00, ⟨f00, 0, 0⟩, 0, 0, 0, false, ⟨ph0, seq0, j0, fd0, some l0, er0, tm0⟩, ⟨⟨0, seq', j', fd', none, 17, tm'⟩, wd', vl'⟩, some d0, none, 17, 1, 10⟩
  have iv : PInv T R N (cRem 1 12 key) ⟨i + 1, ⟨W, (st + 1), 1, wd', vl', false, f, dp, ⟨1, 0, 0, 0, none, 0, 0⟩, none⟩⟩ := ⟨fb_st hb (by omega), by dsimp only; omega, hfc, lc_new r1, hk, hdf, dl_new t1, (fun l q => by cases q), by dsimp only; omega, by dsimp only; omega⟩
  have J := J ⟨T, R, 0, f00, ⟨f00, 0, 0⟩, 0, 0, 0, false, ⟨ph0, seq0, j0, fd0, some l0, er0, tm0⟩, ⟨⟨0, seq', j', fd', none, 17, tm'⟩, wd', vl'⟩, some d0, none, 17, 1, 10⟩ _ iv rfl
  dsimp only [ppT, pK, ppH] at J
  dsimp only [PU, ppU, pKa, ppH, acPO]
  refine sx hX [] 4000 rfl (by (simp [-List.getD_eq_getElem?_getD, -List.length_eq_zero_iff, conjP, hP.1, hP.2.1, hP.2.2.1, hP.2.2.2.1, hi8, hQ.2.2.2.2.2.1, hQ.2.2.2.2.2.2] <;> (first | omega | ((repeat' (refine And.intro ?_ ?_)) <;> (first | omega | exact decide_eq_false (by omega) | exact decide_eq_true (by omega)))))) ?_
  refine sx hX [.F] 4000 rfl (by (simp [-List.getD_eq_getElem?_getD, -List.length_eq_zero_iff, conjP])) ?_
  refine sx hX [.F] 4000 rfl (by (simp [-List.getD_eq_getElem?_getD, -List.length_eq_zero_iff, conjP, addOP])) ?_
  refine sx hX [.K, .K, .F, .K, .T, .K, .K, .F] 4000 rfl (by (simp [-List.getD_eq_getElem?_getD, -List.length_eq_zero_iff, conjP, getH, HE.so])) ?_
  refine sx hX [.F] 4000 rfl (by (simp [-List.getD_eq_getElem?_getD, -List.length_eq_zero_iff, conjP, addOP])) ?_
  refine sx hX [.T] 4000 rfl (by (simp [-List.getD_eq_getElem?_getD, -List.length_eq_zero_iff, conjP, addOP])) ?_
  refine sx hX [.F] 4000 rfl (by (simp [-List.getD_eq_getElem?_getD, -List.length_eq_zero_iff, conjP, addOP, hr])) ?_
  refine sx hX [.F] 4000 rfl (by (simp [-List.getD_eq_getElem?_getD, -List.length_eq_zero_iff, conjP, addOP, hr])) ?_
  refine sx hX [.K, .F] 4000 rfl (by (simp [-List.getD_eq_getElem?_getD, -List.length_eq_zero_iff, conjP, getH, HE.so])) ?_
  refine sx hX [.F] 4000 rfl (by (simp [-List.getD_eq_getElem?_getD, -List.length_eq_zero_iff, conjP, addOP])) ?_
  (refine J _ _ _ (sub_of [0, 1, 2, 3, 4, 5, 6, 7, 8, 16, 10, 18, 12] rfl rfl rfl rfl ?tt ?hh ?ot ?ok); (case tt => simp only [ewi]; exact clhP); (case hh => exact clhP); (case ot => exact clkP); (case ok => exact clkP))
end
end Go.Proofs.YtkkddjchkkaagaaGreatDoor
