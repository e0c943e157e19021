/- FindPlays: the runs that find do a step. -/
import Derived.Test.YtkkddjchkkaagaaGreatDoorPlaysWorld
import Derived.Test.YtkkddjchkkaagaaGreatDoorFailsSteps

namespace Go.Proofs.YtkkddjchkkaagaaGreatDoor
open Go Go.Hx
set_option maxRecDepth 8000
theorem df_new {key : Int} : DFI ⟨key, 1, 0, 0, 0, 0, 0, false, 0, 0⟩ 0 0 := ⟨fun _ => ⟨rfl, rfl, rfl⟩, fun _ => ⟨rfl, rfl, rfl⟩, rfl, .inl rfl, fun q => absurd q (show ¬ (1 : Nat) = 2 by decide), fun q => absurd q (show ¬ (1 : Nat) = 3 by decide), fun q => absurd q (show ¬ (1 : Nat) = 4 by decide)⟩
theorem fStep_key {T : Nat} {R : Int} {start : Nat} {s : FS} {W : List Int} {st : Int} : (fStep T R start s W st).s.key = s.key := by
  unfold fStep fFail
  repeat' (first | rfl | split)
section
variable {T : Nat} {R : Int} {N cap : Nat} {key : Int} {o : Nat → Int × Int × Int × Bool} {x : XP} {ρ : Nat → Nat × Nat} {w : World} {I : Act → World → Prop}
set_option maxHeartbeats 4000000 in
theorem pm0 (h : PInv T R N (cRem 1 12 key) x) (hin : x.i < N) (hi : x.i < 120) {a : Nat} (_ha : a < T) (hm : ibits .and .i64 (o x.i).1 7 = 0)
    (J : ∃ p, PU 20 a p T R N cap key o x ρ w I) : ∃ p, PU 19 a p T R N cap key o x ρ w I := by
  have hk := h.fk
  have hs2 := h.s2
  have hb := h.b
  have hdf := h.df
  have hdl := h.dl
  have htn := h.tn
  have hfc := h.fc
  have hlc := h.lc
  obtain ⟨i, ⟨W, st, kd, wd, vl, ch, f, dp, l, dL⟩⟩ := x
  dsimp only at hin hi hm hk hs2 hb hdf hdl htn hfc hlc
  have t1 := hb.t1
  have t8 := hb.t8
  have r1 := hb.r1
  have r4 := hb.r4
  have hl := hb.hl
  have st0 := hb.s0
  have st1 := hb.s1
  have hr := right_FR t1 t8 r1 r4
  have fi1 : (i : Int) < (N : Int) := by omega
  have fi2 : (i : Int) < 120 := by omega
  have ewi : IntKind.i64.wrap ((i : Int) + 1) = ((i + 1 : Nat) : Int) := by rw [wi64 (by omega) (by omega)]; omega
  refine ⟨pp0 T R, ?_⟩
  have hX := hXPl (pp0 T R)
  obtain ⟨pp, h1⟩ := J
  dsimp only [PU, ppU, pKa, ppH, acPO] at h1 ⊢
  refine sxb hX [.r 20] [] 4000 rfl (by (simp [-List.getD_eq_getElem?_getD, -List.length_eq_zero_iff, conjP])) ?_
  refine sxb hX [.r 20] [.F] 4000 rfl (by (simp [-List.getD_eq_getElem?_getD, -List.length_eq_zero_iff, conjP, addOP, hm])) ?_
  refine sxb hX [.r 20] [.F] 4000 rfl (by (simp [-List.getD_eq_getElem?_getD, -List.length_eq_zero_iff, conjP, addOP, hm])) ?_
  refine sxb hX [.r 20] [.F] 4000 rfl (by (simp [-List.getD_eq_getElem?_getD, -List.length_eq_zero_iff, conjP, addOP, hm])) ?_
  refine sxb hX [.r 20] [.F] 4000 rfl (by (simp [-List.getD_eq_getElem?_getD, -List.length_eq_zero_iff, conjP, addOP, hm])) ?_
  refine sxb hX [.r 20] [.F] 4000 rfl (by (simp [-List.getD_eq_getElem?_getD, -List.length_eq_zero_iff, conjP, addOP, hm])) ?_
  (refine ss_sub hX [0, 1, 2, 3, 4, 5, 6, 7, 8, 9, 10, 11, 12, 13] rfl rfl rfl rfl ?tt ?hh ?ot ?ok (ss_sw hX (sw_ss (hXPl pp) (cs := []) h1)); (case tt => exact clhP); (case hh => exact clhP); (case ot => exact clkP); (case ok => exact clkP))
set_option maxHeartbeats 4000000 in
theorem pm1 (h : PInv T R N (cRem 1 12 key) x) (hin : x.i < N) (hi : x.i < 120) {a : Nat} (_ha : a < T) (hm : ibits .and .i64 (o x.i).1 7 = 1)
    (J : ∃ p, PU 20 a p T R N cap key o x ρ w I) : ∃ p, PU 19 a p T R N cap key o x ρ w I := by
  have hk := h.fk
  have hs2 := h.s2
  have hb := h.b
  have hdf := h.df
  have hdl := h.dl
  have htn := h.tn
  have hfc := h.fc
  have hlc := h.lc
  obtain ⟨i, ⟨W, st, kd, wd, vl, ch, f, dp, l, dL⟩⟩ := x
  dsimp only at hin hi hm hk hs2 hb hdf hdl htn hfc hlc
  have t1 := hb.t1
  have t8 := hb.t8
  have r1 := hb.r1
  have r4 := hb.r4
  have hl := hb.hl
  have st0 := hb.s0
  have st1 := hb.s1
  have hr := right_FR t1 t8 r1 r4
  have fi1 : (i : Int) < (N : Int) := by omega
  have fi2 : (i : Int) < 120 := by omega
  have ewi : IntKind.i64.wrap ((i : Int) + 1) = ((i + 1 : Nat) : Int) := by rw [wi64 (by omega) (by omega)]; omega
  refine ⟨pp0 T R, ?_⟩
  have hX := hXPl (pp0 T R)
  obtain ⟨pp, h1⟩ := J
  dsimp only [PU, ppU, pKa, ppH, acPO] at h1 ⊢
  refine sxb hX [.r 20] [] 4000 rfl (by (simp [-List.getD_eq_getElem?_getD, -List.length_eq_zero_iff, conjP])) ?_
  refine sxb hX [.r 20] [.F] 4000 rfl (by (simp [-List.getD_eq_getElem?_getD, -List.length_eq_zero_iff, conjP, addOP, hm])) ?_
  refine sxb hX [.r 20] [.F] 4000 rfl (by (simp [-List.getD_eq_getElem?_getD, -List.length_eq_zero_iff, conjP, addOP, hm])) ?_
  refine sxb hX [.r 20] [.F] 4000 rfl (by (simp [-List.getD_eq_getElem?_getD, -List.length_eq_zero_iff, conjP, addOP, hm])) ?_
  refine sxb hX [.r 20] [.F] 4000 rfl (by (simp [-List.getD_eq_getElem?_getD, -List.length_eq_zero_iff, conjP, addOP, hm])) ?_
  refine sxb hX [.r 20] [.F] 4000 rfl (by (simp [-List.getD_eq_getElem?_getD, -List.length_eq_zero_iff, conjP, addOP, hm])) ?_
  (refine ss_sub hX [0, 1, 2, 3, 4, 5, 6, 7, 8, 9, 10, 11, 12, 13] rfl rfl rfl rfl ?tt ?hh ?ot ?ok (ss_sw hX (sw_ss (hXPl pp) (cs := []) h1)); (case tt => exact clhP); (case hh => exact clhP); (case ot => exact clkP); (case ok => exact clkP))
set_option maxHeartbeats 4000000 in
theorem pm2 (h : PInv T R N (cRem 1 12 key) x) (hin : x.i < N) (hi : x.i < 120) {a : Nat} (_ha : a < T) (hm : ibits .and .i64 (o x.i).1 7 = 2)
    (J : ∃ p, PU 20 a p T R N cap key o x ρ w I) : ∃ p, PU 19 a p T R N cap key o x ρ w I := by
  have hk := h.fk
  have hs2 := h.s2
  have hb := h.b
  have hdf := h.df
  have hdl := h.dl
  have htn := h.tn
  have hfc := h.fc
  have hlc := h.lc
  obtain ⟨i, ⟨W, st, kd, wd, vl, ch, f, dp, l, dL⟩⟩ := x
  dsimp only at hin hi hm hk hs2 hb hdf hdl htn hfc hlc
  have t1 := hb.t1
  have t8 := hb.t8
  have r1 := hb.r1
  have r4 := hb.r4
  have hl := hb.hl
  have st0 := hb.s0
  have st1 := hb.s1
  have hr := right_FR t1 t8 r1 r4
  have fi1 : (i : Int) < (N : Int) := by omega
  have fi2 : (i : Int) < 120 := by omega
  have ewi : IntKind.i64.wrap ((i : Int) + 1) = ((i + 1 : Nat) : Int) := by rw [wi64 (by omega) (by omega)]; omega
  refine ⟨pp0 T R, ?_⟩
  have hX := hXPl (pp0 T R)
  obtain ⟨pp, h1⟩ := J
  dsimp only [PU, ppU, pKa, ppH, acPO] at h1 ⊢
  refine sxb hX [.r 20] [] 4000 rfl (by (simp [-List.getD_eq_getElem?_getD, -List.length_eq_zero_iff, conjP])) ?_
  refine sxb hX [.r 20] [.F] 4000 rfl (by (simp [-List.getD_eq_getElem?_getD, -List.length_eq_zero_iff, conjP, addOP, hm])) ?_
  refine sxb hX [.r 20] [.F] 4000 rfl (by (simp [-List.getD_eq_getElem?_getD, -List.length_eq_zero_iff, conjP, addOP, hm])) ?_
  refine sxb hX [.r 20] [.F] 4000 rfl (by (simp [-List.getD_eq_getElem?_getD, -List.length_eq_zero_iff, conjP, addOP, hm])) ?_
  refine sxb hX [.r 20] [.F] 4000 rfl (by (simp [-List.getD_eq_getElem?_getD, -List.length_eq_zero_iff, conjP, addOP, hm])) ?_
  refine sxb hX [.r 20] [.F] 4000 rfl (by (simp [-List.getD_eq_getElem?_getD, -List.length_eq_zero_iff, conjP, addOP, hm])) ?_
  (refine ss_sub hX [0, 1, 2, 3, 4, 5, 6, 7, 8, 9, 10, 11, 12, 13] rfl rfl rfl rfl ?tt ?hh ?ot ?ok (ss_sw hX (sw_ss (hXPl pp) (cs := []) h1)); (case tt => exact clhP); (case hh => exact clhP); (case ot => exact clkP); (case ok => exact clkP))
set_option maxHeartbeats 4000000 in
theorem pm3 (h : PInv T R N (cRem 1 12 key) x) (hin : x.i < N) (hi : x.i < 120) {a : Nat} (_ha : a < T) (hm : ibits .and .i64 (o x.i).1 7 = 3)
    (J : ∃ p, PU 41 a p T R N cap key o x ρ w I) : ∃ p, PU 19 a p T R N cap key o x ρ w I := by
  have hk := h.fk
  have hs2 := h.s2
  have hb := h.b
  have hdf := h.df
  have hdl := h.dl
  have htn := h.tn
  have hfc := h.fc
  have hlc := h.lc
  obtain ⟨i, ⟨W, st, kd, wd, vl, ch, f, dp, l, dL⟩⟩ := x
  dsimp only at hin hi hm hk hs2 hb hdf hdl htn hfc hlc
  have t1 := hb.t1
  have t8 := hb.t8
  have r1 := hb.r1
  have r4 := hb.r4
  have hl := hb.hl
  have st0 := hb.s0
  have st1 := hb.s1
  have hr := right_FR t1 t8 r1 r4
  have fi1 : (i : Int) < (N : Int) := by omega
  have fi2 : (i : Int) < 120 := by omega
  have ewi : IntKind.i64.wrap ((i : Int) + 1) = ((i + 1 : Nat) : Int) := by rw [wi64 (by omega) (by omega)]; omega
  refine ⟨pp0 T R, ?_⟩
  have hX := hXPl (pp0 T R)
  obtain ⟨pp, h1⟩ := J
  dsimp only [PU, ppU, pKa, ppH, acPO] at h1 ⊢
  refine sxb hX [.r 41] [] 4000 rfl (by (simp [-List.getD_eq_getElem?_getD, -List.length_eq_zero_iff, conjP])) ?_
  refine sxb hX [.r 41] [.F] 4000 rfl (by (simp [-List.getD_eq_getElem?_getD, -List.length_eq_zero_iff, conjP, addOP, hm])) ?_
  refine sxb hX [.r 41] [.F] 4000 rfl (by (simp [-List.getD_eq_getElem?_getD, -List.length_eq_zero_iff, conjP, addOP, hm])) ?_
  refine sxb hX [.r 41] [.F] 4000 rfl (by (simp [-List.getD_eq_getElem?_getD, -List.length_eq_zero_iff, conjP, addOP, hm])) ?_
  refine sxb hX [.r 41] [.T] 4000 rfl (by (simp [-List.getD_eq_getElem?_getD, -List.length_eq_zero_iff, conjP, addOP, hm])) ?_
  (refine ss_sub hX [0, 1, 2, 3, 4, 5, 6, 7, 8, 9, 10, 11, 12, 13] rfl rfl rfl rfl ?tt ?hh ?ot ?ok (ss_sw hX (sw_ss (hXPl pp) (cs := []) h1)); (case tt => exact clhP); (case hh => exact clhP); (case ot => exact clkP); (case ok => exact clkP))
set_option maxHeartbeats 4000000 in
theorem pm4 (h : PInv T R N (cRem 1 12 key) x) (hin : x.i < N) (hi : x.i < 120) {a : Nat} (_ha : a < T) (hm : ibits .and .i64 (o x.i).1 7 = 4)
    (J : ∃ p, PU 41 a p T R N cap key o x ρ w I) : ∃ p, PU 19 a p T R N cap key o x ρ w I := by
  have hk := h.fk
  have hs2 := h.s2
  have hb := h.b
  have hdf := h.df
  have hdl := h.dl
  have htn := h.tn
  have hfc := h.fc
  have hlc := h.lc
  obtain ⟨i, ⟨W, st, kd, wd, vl, ch, f, dp, l, dL⟩⟩ := x
  dsimp only at hin hi hm hk hs2 hb hdf hdl htn hfc hlc
  have t1 := hb.t1
  have t8 := hb.t8
  have r1 := hb.r1
  have r4 := hb.r4
  have hl := hb.hl
  have st0 := hb.s0
  have st1 := hb.s1
  have hr := right_FR t1 t8 r1 r4
  have fi1 : (i : Int) < (N : Int) := by omega
  have fi2 : (i : Int) < 120 := by omega
  have ewi : IntKind.i64.wrap ((i : Int) + 1) = ((i + 1 : Nat) : Int) := by rw [wi64 (by omega) (by omega)]; omega
  refine ⟨pp0 T R, ?_⟩
  have hX := hXPl (pp0 T R)
  obtain ⟨pp, h1⟩ := J
  dsimp only [PU, ppU, pKa, ppH, acPO] at h1 ⊢
  refine sxb hX [.r 41] [] 4000 rfl (by (simp [-List.getD_eq_getElem?_getD, -List.length_eq_zero_iff, conjP])) ?_
  refine sxb hX [.r 41] [.F] 4000 rfl (by (simp [-List.getD_eq_getElem?_getD, -List.length_eq_zero_iff, conjP, addOP, hm])) ?_
  refine sxb hX [.r 41] [.F] 4000 rfl (by (simp [-List.getD_eq_getElem?_getD, -List.length_eq_zero_iff, conjP, addOP, hm])) ?_
  refine sxb hX [.r 41] [.F] 4000 rfl (by (simp [-List.getD_eq_getElem?_getD, -List.length_eq_zero_iff, conjP, addOP, hm])) ?_
  refine sxb hX [.r 41] [.F] 4000 rfl (by (simp [-List.getD_eq_getElem?_getD, -List.length_eq_zero_iff, conjP, addOP, hm])) ?_
  refine sxb hX [.r 41] [.T] 4000 rfl (by (simp [-List.getD_eq_getElem?_getD, -List.length_eq_zero_iff, conjP, addOP, hm])) ?_
  (refine ss_sub hX [0, 1, 2, 3, 4, 5, 6, 7, 8, 9, 10, 11, 12, 13] rfl rfl rfl rfl ?tt ?hh ?ot ?ok (ss_sw hX (sw_ss (hXPl pp) (cs := []) h1)); (case tt => exact clhP); (case hh => exact clhP); (case ot => exact clkP); (case ok => exact clkP))
set_option maxHeartbeats 4000000 in
theorem pfn (h : PInv T R N (cRem 1 12 key) x) (hin : x.i < N) (hi : x.i < 120) {a : Nat} {sf : Nat} (sf1 : startV (T : Int) 4 1 2 4 1 6 0 R x.z.f.key = (sf : Int)) (sf2 : sf < T) {r : FR} (hst : fStep T R sf x.z.f x.z.W x.z.st = r) {dp' : Int} (hdp : dpF T sf x.z.f x.z.W x.z.dp = dp') (e0 : ¬ r.s.ph = 0)
    (J : ∀ p, PJ p T R N cap key o x ρ w I) : ∃ p, PU 20 a p T R N cap key o x ρ w I := by
  have hk := h.fk
  have hs2 := h.s2
  have hb := h.b
  have hdf := h.df
  have hdl := h.dl
  have htn := h.tn
  have hfc := h.fc
  have hlc := h.lc
  obtain ⟨i, ⟨W, st, kd, wd, vl, ch, f, dp, l, dL⟩⟩ := x
  dsimp only at hin hi hst sf1 hdp hk hs2 hb hdf hdl htn hfc hlc
  have t1 := hb.t1
  have t8 := hb.t8
  have r1 := hb.r1
  have r4 := hb.r4
  have hl := hb.hl
  have st0 := hb.s0
  have st1 := hb.s1
  have hr := right_FR t1 t8 r1 r4
  have fi1 : (i : Int) < (N : Int) := by omega
  have fi2 : (i : Int) < 120 := by omega
  have ewi : IntKind.i64.wrap ((i : Int) + 1) = ((i + 1 : Nat) : Int) := by rw [wi64 (by omega) (by omega)]; omega
  obtain ⟨kq1, kq2⟩ := cRemB 1 12 key (by decide) (by decide) (by decide) (by decide)
  have kn2 : cRem 1 12 key ≤ 2147483647 := by omega
  have sn := start_nn hr kq1 kn2
  have sn2 : ¬ startV (T : Int) 4 1 2 4 1 6 0 R (cRem 1 12 key) = -1 := by omega
  have sn3 : ¬ startV (T : Int) 4 1 2 4 1 6 0 R (cRem 1 12 key) < 0 := by omega
  obtain ⟨a1, a2⟩ := dfi_step (T := T) (R := R) (start := sf) (W := W) (st := st) hfc.p1 hfc.p4 hdf (fun q => by obtain ⟨p, _, e⟩ := hfc.pe q; omega)
  have a3 : (fStep T R sf f W st).s.key = f.key := fStep_key
  rw [hst, hdp] at a1
  rw [hst] at a2 a3
  have hc1 : r.s.ph ≠ 0 → FC T R r.s := fun q => by rw [← hst] at q ⊢; exact fStep_c hb hfc q
  have h3 : f.ph = 3 → dp = f.pl := hdf.d3
  have h1 : f.ph = 1 → f.pl = 0 ∧ f.ep = 0 ∧ f.lg = false := fun q => hdf.z1 (.inl q)
  obtain ⟨⟨key', ph', seq', j', fd', pl', ep', lg', er', tm'⟩, wd', vl'⟩ := r
  dsimp only at e0 a1 a2 a3 hc1
  have hp1 : 1 ≤ ph' := (hc1 e0).p1
  have hp4 : ph' ≤ 4 := (hc1 e0).p4
  have hde : deF R f W dp 0 = 0 := (a1 e0).e0
  have hde2 := hde
  have hP : FB T R W st ∧ FC T R f ∧ sf < T ∧ startV (T : Int) 4 1 2 4 1 6 0 R f.key = (sf : Int) ∧ fStep T R sf f W st = ⟨⟨key', ph', seq', j', fd', pl', ep', lg', er', tm'⟩, wd', vl'⟩ := ⟨hb, hfc, sf2, sf1, hst⟩
  have hQ : FB T R W st ∧ FC T R f ∧ sf < T ∧ startV (T : Int) 4 1 2 4 1 6 0 R f.key = (sf : Int) ∧ (f.ph = 3 → dp = f.pl) ∧ (f.ph = 1 → f.pl = 0 ∧ f.ep = 0 ∧ f.lg = false) ∧ fStep T R sf f W st = ⟨⟨key', ph', seq', j', fd', pl', ep', lg', er', tm'⟩, wd', vl'⟩ ∧ dpF T sf f W dp = dp' ∧ deF R f W dp 0 = 0 := ⟨hb, hfc, sf2, sf1, h3, h1, hst, hdp, hde2⟩
  refine ⟨⟨T, R, sf, f, ⟨⟨key', ph', seq', j', fd', pl', ep', lg', er', tm'⟩, wd', vl'⟩, dp, dp', 0, false, l00, ⟨l00, 0, 0⟩, none, none, 0, 2, 10⟩, ?_⟩
  have hX := hXPl ⟨T, R, sf, f, ⟨⟨key', ph', seq', j', fd', pl', ep', lg', er', tm'⟩, wd', vl'⟩, dp, dp', 0, false, l00, ⟨l00, 0, 0⟩, none, none, 0, 2, 10⟩
  rw [hde] at a1
  have iv : PInv T R N (cRem 1 12 key) ⟨i + 1, ⟨W, (st + 1), 1, wd', vl', false, ⟨key', ph', seq', j', fd', pl', ep', lg', er', tm'⟩, dp', l, dL⟩⟩ := ⟨fb_st hb (by omega), by dsimp only; omega, hc1 e0, hlc, by dsimp only; rw [a3]; exact hk, a1 e0, hdl, htn, by dsimp only; omega, by dsimp only; omega⟩
  have J := J ⟨T, R, sf, f, ⟨⟨key', ph', seq', j', fd', pl', ep', lg', er', tm'⟩, wd', vl'⟩, dp, dp', 0, false, l00, ⟨l00, 0, 0⟩, none, none, 0, 2, 10⟩ _ iv rfl
  dsimp only [ppT, pK, ppH] at J
  dsimp only [PU, ppU, pKa, ppH, acPO]
  refine sx hX [] 4000 rfl (by (simp [-List.getD_eq_getElem?_getD, -List.length_eq_zero_iff, conjP, eq_true hP, eq_true hQ, hp4, hp1])) ?_
  refine sx hX [.F] 4000 rfl (by (simp [-List.getD_eq_getElem?_getD, -List.length_eq_zero_iff, conjP, e0, hp4])) ?_
  refine sx hX [.F] 4000 rfl (by (simp [-List.getD_eq_getElem?_getD, -List.length_eq_zero_iff, conjP, addOP, e0])) ?_
  refine sx hX [.K, .K, .T, .K, .F, .K, .K, .F, .K, .K, .F, .K, .K, .K, .F, .K, .F] 4000 rfl (by (simp [-List.getD_eq_getElem?_getD, -List.length_eq_zero_iff, conjP, e0, hp4])) ?_
  refine sx hX [.F] 4000 rfl (by (simp [-List.getD_eq_getElem?_getD, -List.length_eq_zero_iff, conjP, addOP, e0])) ?_
  refine sx hX [.K, .F] 4000 rfl (by (simp [-List.getD_eq_getElem?_getD, -List.length_eq_zero_iff, conjP, getH, HE.so])) ?_
  refine sx hX [.F] 4000 rfl (by (simp [-List.getD_eq_getElem?_getD, -List.length_eq_zero_iff, conjP, addOP])) ?_
  (refine J _ _ _ (sub_of [0, 1, 2, 3, 4, 5, 6, 7, 8, 9, 10, 11, 12] rfl rfl rfl rfl ?tt ?hh ?ot ?ok); (case tt => simp only [ewi]; exact clhP); (case hh => exact clhP); (case ot => exact clkP); (case ok => exact clkP))
set_option maxHeartbeats 4000000 in
theorem pft (h : PInv T R N (cRem 1 12 key) x) (hin : x.i < N) (hi : x.i < 120) {a : Nat} {sf : Nat} (sf1 : startV (T : Int) 4 1 2 4 1 6 0 R x.z.f.key = (sf : Int)) (sf2 : sf < T) {r : FR} (hst : fStep T R sf x.z.f x.z.W x.z.st = r) {dp' : Int} (hdp : dpF T sf x.z.f x.z.W x.z.dp = dp') (e0 : r.s.ph = 0) (e1 : r.s.er = 0)
    (J : ∀ p, PJ p T R N cap key o x ρ w I) : ∃ p, PU 20 a p T R N cap key o x ρ w I := by
  have hk := h.fk
  have hs2 := h.s2
  have hb := h.b
  have hdf := h.df
  have hdl := h.dl
  have htn := h.tn
  have hfc := h.fc
  have hlc := h.lc
  obtain ⟨i, ⟨W, st, kd, wd, vl, ch, f, dp, l, dL⟩⟩ := x
  dsimp only at hin hi hst sf1 hdp hk hs2 hb hdf hdl htn hfc hlc
  have t1 := hb.t1
  have t8 := hb.t8
  have r1 := hb.r1
  have r4 := hb.r4
  have hl := hb.hl
  have st0 := hb.s0
  have st1 := hb.s1
  have hr := right_FR t1 t8 r1 r4
  have fi1 : (i : Int) < (N : Int) := by omega
  have fi2 : (i : Int) < 120 := by omega
  have ewi : IntKind.i64.wrap ((i : Int) + 1) = ((i + 1 : Nat) : Int) := by rw [wi64 (by omega) (by omega)]; omega
  obtain ⟨kq1, kq2⟩ := cRemB 1 12 key (by decide) (by decide) (by decide) (by decide)
  have kn2 : cRem 1 12 key ≤ 2147483647 := by omega
  have sn := start_nn hr kq1 kn2
  have sn2 : ¬ startV (T : Int) 4 1 2 4 1 6 0 R (cRem 1 12 key) = -1 := by omega
  have sn3 : ¬ startV (T : Int) 4 1 2 4 1 6 0 R (cRem 1 12 key) < 0 := by omega
  obtain ⟨a1, a2⟩ := dfi_step (T := T) (R := R) (start := sf) (W := W) (st := st) hfc.p1 hfc.p4 hdf (fun q => by obtain ⟨p, _, e⟩ := hfc.pe q; omega)
  have a3 : (fStep T R sf f W st).s.key = f.key := fStep_key
  rw [hst, hdp] at a1
  rw [hst] at a2 a3
  have hc1 : r.s.ph ≠ 0 → FC T R r.s := fun q => by rw [← hst] at q ⊢; exact fStep_c hb hfc q
  have h3 : f.ph = 3 → dp = f.pl := hdf.d3
  have h1 : f.ph = 1 → f.pl = 0 ∧ f.ep = 0 ∧ f.lg = false := fun q => hdf.z1 (.inl q)
  obtain ⟨⟨key', ph', seq', j', fd', pl', ep', lg', er', tm'⟩, wd', vl'⟩ := r
  dsimp only at e0 e1 a1 a2 a3 hc1
  subst e0; subst e1
  have hde2 := (a2 rfl).1
  have hP : FB T R W st ∧ FC T R f ∧ sf < T ∧ startV (T : Int) 4 1 2 4 1 6 0 R f.key = (sf : Int) ∧ fStep T R sf f W st = ⟨⟨key', 0, seq', j', fd', pl', ep', lg', 0, tm'⟩, wd', vl'⟩ := ⟨hb, hfc, sf2, sf1, hst⟩
  have hQ : FB T R W st ∧ FC T R f ∧ sf < T ∧ startV (T : Int) 4 1 2 4 1 6 0 R f.key = (sf : Int) ∧ (f.ph = 3 → dp = f.pl) ∧ (f.ph = 1 → f.pl = 0 ∧ f.ep = 0 ∧ f.lg = false) ∧ fStep T R sf f W st = ⟨⟨key', 0, seq', j', fd', pl', ep', lg', 0, tm'⟩, wd', vl'⟩ ∧ dpF T sf f W dp = dp' ∧ deF R f W dp 0 = 0 := ⟨hb, hfc, sf2, sf1, h3, h1, hst, hdp, hde2⟩
  refine ⟨⟨T, R, sf, f, ⟨⟨key', 0, seq', j', fd', pl', ep', lg', 0, tm'⟩, wd', vl'⟩, dp, dp', 0, false, l00, ⟨l00, 0, 0⟩, none, none, 0, 0, 10⟩, ?_⟩
  have hX := hXPl ⟨T, R, sf, f, ⟨⟨key', 0, seq', j', fd', pl', ep', lg', 0, tm'⟩, wd', vl'⟩, dp, dp', 0, false, l00, ⟨l00, 0, 0⟩, none, none, 0, 0, 10⟩
  skip
  have iv : PInv T R N (cRem 1 12 key) ⟨i + 1, ⟨W, (st + 1), 1, wd', vl', false, ⟨cRem 1 12 key, 1, 0, 0, 0, 0, 0, false, 0, 0⟩, 0, l, dL⟩⟩ := ⟨fb_st hb (by omega), by dsimp only; omega, fc_new kq1 kn2 r1, hlc, rfl, df_new, hdl, htn, by dsimp only; omega, by dsimp only; omega⟩
  have J := J ⟨T, R, sf, f, ⟨⟨key', 0, seq', j', fd', pl', ep', lg', 0, tm'⟩, wd', vl'⟩, dp, dp', 0, false, l00, ⟨l00, 0, 0⟩, none, none, 0, 0, 10⟩ _ iv rfl
  dsimp only [ppT, pK, ppH] at J
  dsimp only [PU, ppU, pKa, ppH, acPO]
  refine sx hX [] 4000 rfl (by (simp [-List.getD_eq_getElem?_getD, -List.length_eq_zero_iff, conjP, eq_true hP, eq_true hQ])) ?_
  refine sx hX [.F] 4000 rfl (by (simp [-List.getD_eq_getElem?_getD, -List.length_eq_zero_iff, conjP])) ?_
  refine sx hX [.F] 4000 rfl (by (simp [-List.getD_eq_getElem?_getD, -List.length_eq_zero_iff, conjP, addOP])) ?_
  refine sx hX [.K, .K, .F, .K, .T, .K, .F, .K, .K, .F] 4000 rfl (by (simp [-List.getD_eq_getElem?_getD, -List.length_eq_zero_iff, conjP, getH, HE.so])) ?_
  refine sx hX [.F] 4000 rfl (by (simp [-List.getD_eq_getElem?_getD, -List.length_eq_zero_iff, conjP, addOP])) ?_
  refine sx hX [.T] 4000 rfl (by (simp [-List.getD_eq_getElem?_getD, -List.length_eq_zero_iff, conjP, addOP])) ?_
  refine sx hX [.F] 4000 rfl (by (simp [-List.getD_eq_getElem?_getD, -List.length_eq_zero_iff, conjP, hr, sn2] <;> (first | omega | ((repeat' (refine And.intro ?_ ?_)) <;> (first | omega | exact decide_eq_false (by omega) | exact decide_eq_true (by omega)))))) ?_
  refine sx hX [.F] 4000 rfl (by (simp [-List.getD_eq_getElem?_getD, -List.length_eq_zero_iff, conjP, addOP, sn3])) ?_
  refine sx hX [.K, .F] 4000 rfl (by (simp [-List.getD_eq_getElem?_getD, -List.length_eq_zero_iff, conjP, getH, HE.so])) ?_
  refine sx hX [.F] 4000 rfl (by (simp [-List.getD_eq_getElem?_getD, -List.length_eq_zero_iff, conjP, addOP])) ?_
  (refine J _ _ _ (sub_of [0, 1, 2, 3, 4, 5, 6, 16, 18, 9, 10, 11, 12] rfl rfl rfl rfl ?tt ?hh ?ot ?ok); (case tt => simp only [ewi]; exact clhP); (case hh => exact clhP); (case ot => exact clkP); (case ok => exact clkP))
set_option maxHeartbeats 4000000 in
theorem pff (h : PInv T R N (cRem 1 12 key) x) (hin : x.i < N) (hi : x.i < 120) {a : Nat} {sf : Nat} (sf1 : startV (T : Int) 4 1 2 4 1 6 0 R x.z.f.key = (sf : Int)) (sf2 : sf < T) {r : FR} (hst : fStep T R sf x.z.f x.z.W x.z.st = r) {dp' : Int} (hdp : dpF T sf x.z.f x.z.W x.z.dp = dp') (e0 : r.s.ph = 0) (e1 : ¬ r.s.er = 0)
    (J : ∀ p, PJ p T R N cap key o x ρ w I) : ∃ p, PU 20 a p T R N cap key o x ρ w I := by
  have hk := h.fk
  have hs2 := h.s2
  have hb := h.b
  have hdf := h.df
  have hdl := h.dl
  have htn := h.tn
  have hfc := h.fc
  have hlc := h.lc
  obtain ⟨i, ⟨W, st, kd, wd, vl, ch, f, dp, l, dL⟩⟩ := x
  dsimp only at hin hi hst sf1 hdp hk hs2 hb hdf hdl htn hfc hlc
  have t1 := hb.t1
  have t8 := hb.t8
  have r1 := hb.r1
  have r4 := hb.r4
  have hl := hb.hl
  have st0 := hb.s0
  have st1 := hb.s1
  have hr := right_FR t1 t8 r1 r4
  have fi1 : (i : Int) < (N : Int) := by omega
  have fi2 : (i : Int) < 120 := by omega
  have ewi : IntKind.i64.wrap ((i : Int) + 1) = ((i + 1 : Nat) : Int) := by rw [wi64 (by omega) (by omega)]; omega
  obtain ⟨kq1, kq2⟩ := cRemB 1 12 key (by decide) (by decide) (by decide) (by decide)
  have kn2 : cRem 1 12 key ≤ 2147483647 := by omega
  have sn := start_nn hr kq1 kn2
  have sn2 : ¬ startV (T : Int) 4 1 2 4 1 6 0 R (cRem 1 12 key) = -1 := by omega
  have sn3 : ¬ startV (T : Int) 4 1 2 4 1 6 0 R (cRem 1 12 key) < 0 := by omega
  obtain ⟨a1, a2⟩ := dfi_step (T := T) (R := R) (start := sf) (W := W) (st := st) hfc.p1 hfc.p4 hdf (fun q => by obtain ⟨p, _, e⟩ := hfc.pe q; omega)
  have a3 : (fStep T R sf f W st).s.key = f.key := fStep_key
  rw [hst, hdp] at a1
  rw [hst] at a2 a3
  have hc1 : r.s.ph ≠ 0 → FC T R r.s := fun q => by rw [← hst] at q ⊢; exact fStep_c hb hfc q
  have h3 : f.ph = 3 → dp = f.pl := hdf.d3
  have h1 : f.ph = 1 → f.pl = 0 ∧ f.ep = 0 ∧ f.lg = false := fun q => hdf.z1 (.inl q)
  obtain ⟨⟨key', ph', seq', j', fd', pl', ep', lg', er', tm'⟩, wd', vl'⟩ := r
  dsimp only at e0 e1 a1 a2 a3 hc1
  subst e0
  have e13 : ¬ er' = 13 := by rcases (a2 rfl).2.1 with q | q | q <;> omega
  obtain ⟨z1, z2, z3⟩ := (a2 rfl).2.2 e1
  dsimp only at z1 z2 z3
  subst z1; subst z2; subst z3
  have hde2 := (a2 rfl).1
  have hP : FB T R W st ∧ FC T R f ∧ sf < T ∧ startV (T : Int) 4 1 2 4 1 6 0 R f.key = (sf : Int) ∧ fStep T R sf f W st = ⟨⟨key', 0, seq', j', fd', 0, 0, false, er', tm'⟩, wd', vl'⟩ := ⟨hb, hfc, sf2, sf1, hst⟩
  have hQ : FB T R W st ∧ FC T R f ∧ sf < T ∧ startV (T : Int) 4 1 2 4 1 6 0 R f.key = (sf : Int) ∧ (f.ph = 3 → dp = f.pl) ∧ (f.ph = 1 → f.pl = 0 ∧ f.ep = 0 ∧ f.lg = false) ∧ fStep T R sf f W st = ⟨⟨key', 0, seq', j', fd', 0, 0, false, er', tm'⟩, wd', vl'⟩ ∧ dpF T sf f W dp = dp' ∧ deF R f W dp 0 = er' := ⟨hb, hfc, sf2, sf1, h3, h1, hst, hdp, hde2⟩
  refine ⟨⟨T, R, sf, f, ⟨⟨key', 0, seq', j', fd', 0, 0, false, er', tm'⟩, wd', vl'⟩, dp, dp', er', false, l00, ⟨l00, 0, 0⟩, none, none, 0, 1, 10⟩, ?_⟩
  have hX := hXPl ⟨T, R, sf, f, ⟨⟨key', 0, seq', j', fd', 0, 0, false, er', tm'⟩, wd', vl'⟩, dp, dp', er', false, l00, ⟨l00, 0, 0⟩, none, none, 0, 1, 10⟩
  skip
  have iv : PInv T R N (cRem 1 12 key) ⟨i + 1, ⟨W, (st + 1), 1, wd', vl', false, ⟨cRem 1 12 key, 1, 0, 0, 0, 0, 0, false, 0, 0⟩, 0, l, dL⟩⟩ := ⟨fb_st hb (by omega), by dsimp only; omega, fc_new kq1 kn2 r1, hlc, rfl, df_new, hdl, htn, by dsimp only; omega, by dsimp only; omega⟩
  have J := J ⟨T, R, sf, f, ⟨⟨key', 0, seq', j', fd', 0, 0, false, er', tm'⟩, wd', vl'⟩, dp, dp', er', false, l00, ⟨l00, 0, 0⟩, none, none, 0, 1, 10⟩ _ iv rfl
  dsimp only [ppT, pK, ppH] at J
  dsimp only [PU, ppU, pKa, ppH, acPO]
  refine sx hX [] 4000 rfl (by (simp [-List.getD_eq_getElem?_getD, -List.length_eq_zero_iff, conjP, eq_true hP, eq_true hQ, e1])) ?_
  refine sx hX [.F] 4000 rfl (by (simp [-List.getD_eq_getElem?_getD, -List.length_eq_zero_iff, conjP])) ?_
  refine sx hX [.F] 4000 rfl (by (simp [-List.getD_eq_getElem?_getD, -List.length_eq_zero_iff, conjP, addOP])) ?_
  refine sx hX [.K, .K, .F, .K, .T, .K, .F, .K, .K, .F] 4000 rfl (by (simp [-List.getD_eq_getElem?_getD, -List.length_eq_zero_iff, conjP, getH, HE.so])) ?_
  refine sx hX [.F] 4000 rfl (by (simp [-List.getD_eq_getElem?_getD, -List.length_eq_zero_iff, conjP, addOP])) ?_
  refine sx hX [.T] 4000 rfl (by (simp [-List.getD_eq_getElem?_getD, -List.length_eq_zero_iff, conjP, addOP])) ?_
  refine sx hX [.F] 4000 rfl (by (simp [-List.getD_eq_getElem?_getD, -List.length_eq_zero_iff, conjP, hr, sn2] <;> (first | omega | ((repeat' (refine And.intro ?_ ?_)) <;> (first | omega | exact decide_eq_false (by omega) | exact decide_eq_true (by omega)))))) ?_
  refine sx hX [.F] 4000 rfl (by (simp [-List.getD_eq_getElem?_getD, -List.length_eq_zero_iff, conjP, addOP, sn3])) ?_
  refine sx hX [.K, .F] 4000 rfl (by (simp [-List.getD_eq_getElem?_getD, -List.length_eq_zero_iff, conjP, getH, HE.so])) ?_
  refine sx hX [.F] 4000 rfl (by (simp [-List.getD_eq_getElem?_getD, -List.length_eq_zero_iff, conjP, addOP])) ?_
  (refine J _ _ _ (sub_of [0, 1, 2, 3, 4, 5, 6, 16, 18, 9, 10, 11, 12] rfl rfl rfl rfl ?tt ?hh ?ot ?ok); (case tt => simp only [ewi]; exact clhP); (case hh => exact clhP); (case ot => exact clkP); (case ok => exact clkP))
end
end Go.Proofs.YtkkddjchkkaagaaGreatDoor
