/- SmallLast: when all runs have ended, one behind the other, what is read is the message that was written last, whole, at the first attempt; or there is none yet. -/
import Derived.Test.YtmghcelohnlceaaGreatDoorLastTurnA
import Derived.Test.YtmghcelohnlceaaGreatDoorLastTurnB
import Derived.Test.YtmghcelohnlceaaGreatDoorLastTurnC
import Derived.Test.YtmghcelohnlceaaGreatDoorLastTurnD
import Derived.Test.YtmghcelohnlceaaGreatDoorLastRead
namespace Go.Proofs.YtmghcelohnlceaaGreatDoor
open Go Go.Hx
set_option maxRecDepth 8000
section
variable {R : Int} {N cap : Nat} {o : Nat → Int × Int} {x : LS} {ρ : Nat → Nat × Nat} {w : World} {I : Act → World → Prop}
theorem la (h : LInv R N 0 x) (hin : x.i < N) (hi : x.i < 150) (J : ∀ p, LJJ p R N cap o x ρ w I) : ∃ p, LG p R N cap o x ρ w I := by
  rcases hb : bkB (o x.i).1 (o x.i).2 (hdO x.z.c0) (hdO x.z.c1) with _ | _
  · rcases a3_cases (o x.i).1 with ha | ha | ha | ha
    · rcases hc : x.z.c0 with _ | ⟨ep, nx, sn, fl, tm, ii, hd, l⟩
      · rcases hbm : x.b with _ | _
        · exact lg0a h hin hi ha hb hc hbm (fun x' h' e ne => t1t0 h' (by rw [e]; exact hin) (by rw [e]; exact hi) ne fun p x'' hx hi2 => J p x'' hx (by rw [hi2, e]))
        · exact lg0b h hin hi ha hb hc hbm (fun x' h' e ne => t1t0 h' (by rw [e]; exact hin) (by rw [e]; exact hi) ne fun p x'' hx hi2 => J p x'' hx (by rw [hi2, e]))
      · exact lo0 h hin hi ha hb hc (fun x' h' e ne => t1t0 h' (by rw [e]; exact hin) (by rw [e]; exact hi) ne fun p x'' hx hi2 => J p x'' hx (by rw [hi2, e]))
    · rcases hc : x.z.c1 with _ | ⟨ep, nx, sn, fl, tm, ii, hd, l⟩
      · rcases hbm : x.b with _ | _
        · exact lg1a h hin hi ha hb hc hbm (fun x' h' e ne => t1t1 h' (by rw [e]; exact hin) (by rw [e]; exact hi) ne fun p x'' hx hi2 => J p x'' hx (by rw [hi2, e]))
        · exact lg1b h hin hi ha hb hc hbm (fun x' h' e ne => t1t1 h' (by rw [e]; exact hin) (by rw [e]; exact hi) ne fun p x'' hx hi2 => J p x'' hx (by rw [hi2, e]))
      · exact lo1 h hin hi ha hb hc (fun x' h' e ne => t1t1 h' (by rw [e]; exact hin) (by rw [e]; exact hi) ne fun p x'' hx hi2 => J p x'' hx (by rw [hi2, e]))
    · rcases hc : x.z.c2 with _ | ⟨ep, nx, sn, fl, tm, o'⟩
      · exact lg2 h hin hi ha hb hc (fun x' h' e ne => t1t2 h' (by rw [e]; exact hin) (by rw [e]; exact hi) ne fun p x'' hx hi2 => J p x'' hx (by rw [hi2, e]))
      · exact lo2 h hin hi ha hb hc (fun x' h' e ne => t1t2 h' (by rw [e]; exact hin) (by rw [e]; exact hi) ne fun p x'' hx hi2 => J p x'' hx (by rw [hi2, e]))
    · rcases hc : x.z.c3 with _ | ⟨ep, nx, sn, fl, tm, o'⟩
      · exact lg3 h hin hi ha hb hc (fun x' h' e ne => t1t3 h' (by rw [e]; exact hin) (by rw [e]; exact hi) ne fun p x'' hx hi2 => J p x'' hx (by rw [hi2, e]))
      · exact lo3 h hin hi ha hb hc (fun x' h' e ne => t1t3 h' (by rw [e]; exact hin) (by rw [e]; exact hi) ne fun p x'' hx hi2 => J p x'' hx (by rw [hi2, e]))
  · exact lbk h hin hi hb J
end
section
variable {bb : Bool} {R : Int} {N : Nat} {o : Nat → Int × Int} {bm : Bool} {mm : List Int} {x : L2} {ρ : Nat → Nat × Nat} {w : World} {I : Act → World → Prop}
theorem lu (h : L2Inv R mm x) (hj : x.j < 400) (J : ∀ p, MJ0 p bb R N o bm mm x ρ w I) : ∃ p, MG0 p bb R N o bm mm x ρ w I := by
  by_cases g1 : x.j < 100
  · exact t2t0 h (Nat.zero_le _) g1 J
  · by_cases g2 : x.j < 200
    · exact t2t1 h (by omega) g2 J
    · by_cases g3 : x.j < 300
      · exact t2t2 h (by omega) g3 J
      · exact t2t3 h (by omega) (by omega) J
set_option maxHeartbeats 8000000 in
/-- All runs have ended; somebody reads. -/
theorem lrr (h : L2Inv R mm x) (hj : x.j = 400) (hbm : bm = false → mm.length = 1) :
    SS (hXLe 0 r00) (At ρ w) (Is .tt [scE bb N o, pinE RTV]) ⟨[], [], Tryz.f6, Tryz.f6.ntmps, [scE bb N o, pinE RTV], contF Tryz.f6 22 [], [(5, .tt), (6, .ptr 2 0), (7, .int .u64 x.now), (8, mnV bm 20 mm)], wdH (scE bb N o) R x.z [mnE bm mm]⟩ := by
  obtain ⟨k0, k1, k2, k3⟩ := h.done hj
  have kf := h.ff (by omega)
  have hb := h.b
  have hlj := h.j
  obtain ⟨j, ⟨W, st, kd, wd, vl, ch, stb, kdb, wdb, vlb, chb, f, n, c0, c1, c2, c3, p0, q0, p1, q1, p2, q2, p3, q3, d0, d1, d2, d3⟩, now⟩ := x
  dsimp only at k0 k1 k2 k3 kf hj hlj
  subst k0; subst k1; subst k2; subst k3; subst kf
  have r1 := hb.r1
  have r2 := hb.r2
  have hl : W.length = 21 := hb.hl
  have w0 : 0 ≤ W.getD 7 0 := (hb.hw 7).1
  have w1 : W.getD 7 0 < 18446744073709551616 := (hb.hw 7).2
  have s0 : 0 ≤ st := hb.s0
  have s1 : st ≤ 100 + 2 * ((301 + j : Nat) : Int) := hb.s1
  have n1 : n ≤ ((301 + j : Nat) : Int) := hb.n1
  have nl : mm.length ≤ 1000000000 := by have := hlj.nm; omega
  have hr := csR r1 r2
  have h7 : 7 < W.length := by omega
  have hco : cellOff 7 1 0 = 7 := by simp [cellOff]
  have hX := hXLe 0 r00
  have hgo : SS hX (At ρ w) (Is .tt [scE bb N o, pinE RTV]) ⟨[], [], Tryz.f6, Tryz.f6.ntmps, [scE bb N o, pinE RTV], contF Tryz.f6 23 [], [(5, .tt), (6, .ptr 2 0), (7, .int .u64 now), (8, mnV bm 20 mm), (13, .ptr 21 0)], l3H bb N o R bm mm ⟨0, ⟨W, st, kd, wd, vl, ch, stb, kdb, wdb, vlb, chb, true, n, none, none, none, none, p0, q0, p1, q1, p2, q2, p3, q3, d0, d1, d2, d3⟩, 0, 0⟩⟩ := by
    refine sxb hX [.l] [] 4000 rfl trivial ?_
    refine ss_sub hX (T' := l3T bm mm now ⟨0, ⟨W, st, kd, wd, vl, ch, stb, kdb, wdb, vlb, chb, true, n, none, none, none, none, p0, q0, p1, q1, p2, q2, p3, q3, d0, d1, d2, d3⟩, 0, 0⟩) (H' := l3H bb N o R bm mm ⟨0, ⟨W, st, kd, wd, vl, ch, stb, kdb, wdb, vlb, chb, true, n, none, none, none, none, p0, q0, p1, q1, p2, q2, p3, q3, d0, d1, d2, d3⟩, 0, 0⟩) [0, 1, 2, 3, 4, 5, 6, 7, 8, 9, 10, 11, 12, 13, 14, 15, 16, 17, 18, 19, 20, 21, 22] rfl rfl rfl (by cases bb <;> cases bm <;> rfl) ?tt ?hh ?ot ?ok ?_
    case tt => (exact clhA)
    case hh => (exact clhA)
    case ot => (exact clkA)
    case ok => (exact clkA)
    refine ss_loop hX (l3T bm mm now) (l3H bb N o R bm mm) (L3Inv R W) (fun x => 6 - x.j) ⟨0, ⟨W, st, kd, wd, vl, ch, stb, kdb, wdb, vlb, chb, true, n, none, none, none, none, p0, q0, p1, q1, p2, q2, p3, q3, d0, d1, d2, d3⟩, 0, 0⟩ ⟨r1, r2, hl, hb.hw, hlj.li, rfl, s0, by (try dsimp only); omega, by (try dsimp only); omega, .inl ⟨rfl, rfl⟩⟩ ?_
    intro x hx I back
    by_cases hj6 : x.j < 6
    · obtain ⟨q', r', hp⟩ := lrd (bb := bb) (N := N) (o := o) (bm := bm) (mm := mm) (now := now) (ρ := ρ) (w := w) (I := I) hx hj6 (fun q r x' hx' hj' cs T H hsub => ss_sw (hXLe q r) (sw_ss hX (back x' hx' (by show 6 - x'.j < 6 - x.j; omega) [] T H hsub)))
      refine sxb hX [.r 24] [] 100 rfl trivial ?_
      exact ss_sw hX (sw_ss (hXLe q' r') (cs := []) hp)
    · have hj6' : ¬ (x.j : Int) < 6 := by omega
      have hxp := hx.p
      have hend : SS hX (At ρ w) (Is .tt [scE bb N o, pinE RTV]) ⟨[], [], Tryz.f6, Tryz.f6.ntmps, [scE bb N o, pinE RTV], contF Tryz.f6 27 [], FT bm mm now, l3H bb N o R bm mm x⟩ := by
        by_cases g : geW (W.getD 7 0) = 0
        · exact lfin5 (by omega) (hlj.g0.2 g)
        · have hn : now ≠ 0 := fun q => g (hlj.g0.1 q)
          have p0 := hlj.n0
          have p1 := hlj.n1
          have hbt : bm = true := by
            rcases bm with _ | _
            · have := hbm rfl; omega
            · rfl
          subst hbt
          refine lfin4 (by omega) (by omega) p1 nl (hlj.mb now.toNat (by omega) (by omega)) fun j hj => ?_
          rw [hx.eW]
          exact hlj.bf hn j hj
      have hph : x.ph = 4 ∨ x.ph = 5 := by omega
      obtain ⟨j3, z3, ph3, tm3⟩ := x
      dsimp only at hph hj6'
      rcases hph with rfl | rfl
      · dsimp only [l3T, l3H, l3E, wdH] at hend ⊢
        refine sxb hX [.r 27] [] 4000 rfl (by (simp [-List.getD_eq_getElem?_getD, -List.length_eq_zero_iff, conjP] <;> (first | omega | ((repeat' (refine And.intro ?_ ?_)) <;> (first | omega | exact decide_eq_false (by omega) | exact decide_eq_true (by omega)))))) ?_
        refine sxb hX [.r 27] [.F] 4000 rfl (by (simp [-List.getD_eq_getElem?_getD, -List.length_eq_zero_iff, conjP, addOP, hj6'] <;> (first | omega | ((repeat' (refine And.intro ?_ ?_)) <;> (first | omega | exact decide_eq_false (by omega) | exact decide_eq_true (by omega)))))) ?_
        (refine ss_sub hX (T' := FT bm mm now) (H' := l3H bb N o R bm mm ⟨j3, z3, 4, tm3⟩) [0, 1, 2, 3, 4, 5, 6, 7, 8, 9, 10, 11, 12, 13, 14, 15, 16, 17, 18, 19, 20, 21, 22] rfl rfl rfl (by cases bb <;> cases bm <;> rfl) ?tt ?hh ?ot ?ok hend; (case tt => (exact clhA)); (case hh => (exact clhA)); (case ot => (exact clkA)); (case ok => (exact clkA)))
      · dsimp only [l3T, l3H, l3E, wdH] at hend ⊢
        refine sxb hX [.r 27] [] 4000 rfl (by (simp [-List.getD_eq_getElem?_getD, -List.length_eq_zero_iff, conjP] <;> (first | omega | ((repeat' (refine And.intro ?_ ?_)) <;> (first | omega | exact decide_eq_false (by omega) | exact decide_eq_true (by omega)))))) ?_
        refine sxb hX [.r 27] [.F] 4000 rfl (by (simp [-List.getD_eq_getElem?_getD, -List.length_eq_zero_iff, conjP, addOP, hj6'] <;> (first | omega | ((repeat' (refine And.intro ?_ ?_)) <;> (first | omega | exact decide_eq_false (by omega) | exact decide_eq_true (by omega)))))) ?_
        (refine ss_sub hX (T' := FT bm mm now) (H' := l3H bb N o R bm mm ⟨j3, z3, 5, tm3⟩) [0, 1, 2, 3, 4, 5, 6, 7, 8, 9, 10, 11, 12, 13, 14, 15, 16, 17, 18, 19, 20, 21, 61] rfl rfl rfl (by cases bb <;> cases bm <;> rfl) ?tt ?hh ?ot ?ok hend; (case tt => (exact clhA)); (case hh => (exact clhA)); (case ot => (exact clkA)); (case ok => (exact clkA)))
  dsimp only [wdH]
  refine sxb hX [.r 23] [] 4000 rfl (by (simp [-List.getD_eq_getElem?_getD, -List.length_eq_zero_iff, conjP] <;> (first | omega | ((repeat' (refine And.intro ?_ ?_)) <;> (first | omega | exact decide_eq_false (by omega) | exact decide_eq_true (by omega)))))) ?_
  refine sxb hX [.r 23] [.K, .K, .F] 4000 rfl (by (simp [-List.getD_eq_getElem?_getD, -List.length_eq_zero_iff, conjP, getH, HE.so, r1, r2, hl, w0, w1, hco, bsV] <;> (first | omega | ((repeat' (refine And.intro ?_ ?_)) <;> (first | omega | exact decide_eq_false (by omega) | exact decide_eq_true (by omega)))))) ?_
  (refine ss_sub hX (T' := [(5, .tt), (6, .ptr 2 0), (7, .int .u64 now), (8, mnV bm 20 mm), (13, .ptr 21 0)]) (H' := l3H bb N o R bm mm ⟨0, ⟨W, st, kd, wd, vl, ch, stb, kdb, wdb, vlb, chb, true, n, none, none, none, none, p0, q0, p1, q1, p2, q2, p3, q3, d0, d1, d2, d3⟩, 0, 0⟩) [0, 1, 2, 3, 4, 5, 6, 7, 8, 9, 10, 11, 12, 13, 14, 15, 16, 17, 18, 19, 20, 25, 61] rfl rfl rfl (by cases bb <;> cases bm <;> rfl) ?tt ?hh ?ot ?ok hgo; (case tt => (exact clhA)); (case hh => (exact clhA)); (case ot => (exact clkA)); (case ok => (exact clkA)))
set_option maxHeartbeats 8000000 in
/-- The second loop. -/
theorem llp (h : L2Inv R mm x) (hj : x.j = 0) (hbm : bm = false → mm.length = 1) :
    SS hXMa (At ρ w) (Is .tt [scE bb N o, pinE RTV]) ⟨[], [], Tryz.f6, Tryz.f6.ntmps, [scE bb N o, pinE RTV], contF Tryz.f6 18 [], [(5, .tt), (6, .ptr 2 0), (7, .int .u64 x.now), (8, mnV bm 20 mm)], wdH (scE bb N o) R x.z [mnE bm mm]⟩ := by
  have hX := hXMa
  obtain ⟨j, z, now⟩ := x
  dsimp only at hj
  subst hj
  refine sxb hX [.l] [] 4000 rfl trivial ?_
  refine ss_sub hX (T' := l2T bm mm ⟨0, z, now⟩) (H' := l2H bb N o R bm mm ⟨0, z, now⟩) [0, 1, 2, 3, 4, 5, 6, 7, 8, 9, 10, 11, 12, 13, 14, 15, 16, 17, 18, 19, 20] rfl rfl rfl (by cases bb <;> cases bm <;> rfl) ?tt ?hh ?ot ?ok ?_
  case tt => (exact clhA)
  case hh => (exact clhA)
  case ot => (exact clkA)
  case ok => (exact clkA)
  refine ss_loop hX (l2T bm mm) (l2H bb N o R bm mm) (L2Inv R mm) (fun x => 400 - x.j) ⟨0, z, now⟩ h ?_
  intro x hx I back
  by_cases hj4 : x.j < 400
  · obtain ⟨p, hp⟩ := lu (bb := bb) (N := N) (o := o) (bm := bm) (ρ := ρ) (w := w) (I := I) hx hj4 (fun p x' hx' hj' cs T H hsub => ss_sw (hXTl p) (sw_ss hX (back x' hx' (by show 400 - x'.j < 400 - x.j; omega) [] T H hsub)))
    refine sxb hX [.r 19] [] 100 rfl trivial ?_
    exact ss_sw hX (sw_ss (hXTl p) (cs := []) hp)
  · have hj5 : x.j = 400 := by have := hx.hj; omega
    have hj6 : ¬ (x.j : Int) < 400 := by omega
    have hend := ss_sw hX (cs := []) (sw_ss (hXLe 0 r00) (cs := []) (lrr (bb := bb) (N := N) (o := o) (ρ := ρ) (w := w) hx hj5 hbm))
    dsimp only [l2T, l2H, wdH] at hend ⊢
    refine sxb hX [.r 22] [] 4000 rfl (by (simp [-List.getD_eq_getElem?_getD, -List.length_eq_zero_iff, conjP] <;> (first | omega | ((repeat' (refine And.intro ?_ ?_)) <;> (first | omega | exact decide_eq_false (by omega) | exact decide_eq_true (by omega)))))) ?_
    refine sxb hX [.r 22] [.F] 4000 rfl (by (simp [-List.getD_eq_getElem?_getD, -List.length_eq_zero_iff, conjP, addOP, hj6] <;> (first | omega | ((repeat' (refine And.intro ?_ ?_)) <;> (first | omega | exact decide_eq_false (by omega) | exact decide_eq_true (by omega)))))) ?_
    (refine ss_sub hX (T' := [(5, .tt), (6, .ptr 2 0), (7, .int .u64 x.now), (8, mnV bm 20 mm)]) (H' := wdH (scE bb N o) R x.z [mnE bm mm]) [0, 1, 2, 3, 4, 5, 6, 7, 8, 9, 10, 11, 12, 13, 14, 15, 16, 17, 18, 19, 20] rfl rfl rfl (by cases bb <;> cases bm <;> rfl) ?tt ?hh ?ot ?ok hend; (case tt => (exact clhA)); (case hh => (exact clhA)); (case ot => (exact clkA)); (case ok => (exact clkA)))
end
theorem bg7 {R : Int} : (bgW R).getD 7 0 = bornW 0 := by
  have hl := bgW_len R
  unfold bgW at hl ⊢
  rw [set_getD, if_pos ⟨rfl, by simp at hl ⊢; omega⟩]
theorem lj0_ok {R : Int} (v : Nat → Value) : LJ (wd0 R v).W none none 0 0 0 0 [0] := by
  have hf : fitC (epW 0) 0 0 := ⟨by decide, by decide, by decide, by decide, by decide, by decide⟩
  have e : (wd0 R v).W.getD 7 0 = bornW 0 := bg7
  refine ⟨by rw [e]; exact li_pk hf true false, fun q => ?_, by decide, by decide, by decide, fun k k1 k2 => absurd (show k < 1 from k2) (by omega), ?_, fun q => absurd rfl q, fun s hs => (by cases hs), fun s hs => (by cases hs)⟩
  · rw [e, show buW (bornW 0) = false from bu_pk hf true false] at q; cases q
  · rw [e]; exact ⟨fun _ => ge_pk hf true false, fun _ => rfl⟩
theorem ls0_ok {R : Int} {N : Nat} (r1 : 1 ≤ R) (r2 : R ≤ 8) (v : Nat → Value) : LInv R N 0 ⟨0, wd0 R v, 0, false, [0]⟩ :=
  ⟨wd0_ok r1 r2 v, Nat.zero_le _, Nat.zero_le _, ⟨fun _ e => (by cases e), fun _ e => (by cases e), fun _ _ e => (by cases e)⟩, lj0_ok v, fun _ => rfl⟩
theorem l2_of {R : Int} {N : Nat} {x : LS} (h : LInv R N 0 x) : L2Inv R x.m ⟨0, x.z, x.now⟩ := by
  have hi := h.hi
  refine ⟨h.b.mono (by show 2 * x.i + 0 ≤ 301 + 0; omega) (by show 301 + 0 ≤ 10000; omega), Nat.zero_le _, h.m, h.j, fun s hs => ?_, fun q => absurd (show 100 ≤ 0 from q) (by omega), fun q => absurd (show 200 ≤ 0 from q) (by omega), fun q => absurd (show 300 ≤ 0 from q) (by omega), fun q => absurd (show 1 ≤ 0 from q) (by omega)⟩
  have ok : WOk R s := by have q := h.b.o0; dsimp only at hs; rw [hs] at q; exact q
  have := mu_max (W := x.z.W) ok
  have := h.b.r2
  show muW R s x.z.W + ((0 : Nat) : Int) ≤ 100
  omega
set_option maxHeartbeats 8000000 in
theorem smallLast_fn (r : Int) (N cap : Nat) (o : Nat → Int × Int) : Gives Tryz.prog 6 [.int .i64 r, .slice 0 0 N cap] [.obj (.rows N 2 (actR o)), pinE RTV] (Is .tt [.obj (.rows N 2 (actR o)), pinE RTV]) := by
  have hX := hXMa
  obtain ⟨c1, c2⟩ := cAnd7 r
  refine gives_x hX (fn := Tryz.f6) rfl rfl rfl rfl fun ρ w => ?_
  refine sxb hX [.l] [] 4000 rfl (by first | exact trivial | simp [conjP, getH, HE.so]) ?_
  refine ss_raw hX 8 2 rfl rfl fun v0 => ?_
  refine ss_raw hX 8 3 rfl rfl fun v1 => ?_
  refine ss_raw hX 9 2 rfl rfl fun v2 => ?_
  refine ss_raw hX 9 3 rfl rfl fun v3 => ?_
  refine ss_raw hX 10 2 rfl rfl fun v4 => ?_
  refine ss_raw hX 10 3 rfl rfl fun v5 => ?_
  refine ss_raw hX 11 2 rfl rfl fun v6 => ?_
  refine ss_raw hX 11 3 rfl rfl fun v7 => ?_
  refine ss_sub hX (T' := llT N cap ⟨0, (wd0 (cAnd 7 r) (vv v0 v1 v2 v3 v4 v5 v6 v7)), 0, false, [0]⟩) (H' := llH N o (cAnd 7 r) ⟨0, (wd0 (cAnd 7 r) (vv v0 v1 v2 v3 v4 v5 v6 v7)), 0, false, [0]⟩) [0, 1, 2, 3, 4, 5, 6, 7, 8, 9, 10, 11, 60, 61, 62, 63, 64, 65, 66, 67, 12] rfl rfl rfl rfl ?tt ?hh ?ot ?ok ?_
  case tt => (exact clhA)
  case hh =>
    have hl := bgW_len (cAnd 7 r)
    have hl' := hl.symm
    (exact clhA)
  case ot => (exact clkA)
  case ok => (exact clkA)
  refine ss_loop hX (llT N cap) (llH N o (cAnd 7 r)) (LInv (cAnd 7 r) N 0) (fun x => 150 - x.i) _ (ls0_ok c1 c2 _) ?_
  intro x hx I back
  by_cases hlt : x.i < N ∧ x.i < 150
  · obtain ⟨p, hp⟩ := la (cap := cap) (o := o) (ρ := ρ) (w := w) (I := I) hx hlt.1 hlt.2 (fun p x' hx' hi' cs T H hsub => ss_sw (hXTl p) (sw_ss hX (back x' hx' (by show 150 - x'.i < 150 - x.i; omega) [] T H hsub)))
    refine sxb hX [.r 8] [] 100 rfl trivial ?_
    exact ss_sw hX (sw_ss (hXTl p) (cs := []) hp)
  · have hn : (x.i : Int) < (N : Int) → ¬ (x.i : Int) < 150 := fun q q2 => hlt ⟨by omega, by omega⟩
    have hz := llp (bb := true) (N := N) (o := o) (bm := x.b) (ρ := ρ) (w := w) (l2_of hx) rfl hx.bf
    dsimp only [llT, llH, wdH, scE, cond_true] at hz ⊢
    refine sxb hX [.r 18] [] 4000 rfl (by (simp [-List.getD_eq_getElem?_getD, -List.length_eq_zero_iff, conjP] <;> (first | omega | ((repeat' (refine And.intro ?_ ?_)) <;> (first | omega | exact decide_eq_false (by omega) | exact decide_eq_true (by omega)))))) ?_
    refine ss_pb hX [.r 18] [] 4000 rfl (fun hb0 => ?_) (fun hb0 => ?_)
    · try simp [-List.getD_eq_getElem?_getD, -List.length_eq_zero_iff] at hb0
      refine sxb hX [.r 18] [.T] 4000 rfl (by (simp [-List.getD_eq_getElem?_getD, -List.length_eq_zero_iff, conjP, addOP, hb0] <;> (first | omega | ((repeat' (refine And.intro ?_ ?_)) <;> (first | omega | exact decide_eq_false (by omega) | exact decide_eq_true (by omega)))))) ?_
      refine sxb hX [.r 18] [.F] 4000 rfl (by (simp [-List.getD_eq_getElem?_getD, -List.length_eq_zero_iff, conjP, addOP, hn, hb0] <;> (first | omega | ((repeat' (refine And.intro ?_ ?_)) <;> (first | omega | exact decide_eq_false (by omega) | exact decide_eq_true (by omega)))))) ?_
      (refine ss_sub hX (T' := [(5, .tt), (6, .ptr 2 0), (7, .int .u64 x.now), (8, mnV x.b 20 x.m)]) (H' := wdH (.obj (.rows N 2 (actR o))) (cAnd 7 r) x.z [mnE x.b x.m]) [0, 1, 2, 3, 4, 5, 6, 7, 8, 9, 10, 11, 12, 13, 14, 15, 16, 17, 18, 19, 20] rfl rfl rfl rfl ?tt ?hh ?ot ?ok hz; (case tt => (exact clhA)); (case hh => (exact clhA)); (case ot => (exact clkA)); (case ok => (exact clkA)))
    · try simp [-List.getD_eq_getElem?_getD, -List.length_eq_zero_iff] at hb0
      refine sxb hX [.r 18] [.F] 4000 rfl (by (simp [-List.getD_eq_getElem?_getD, -List.length_eq_zero_iff, conjP, addOP, hb0] <;> (first | omega | ((repeat' (refine And.intro ?_ ?_)) <;> (first | omega | exact decide_eq_false (by omega) | exact decide_eq_true (by omega)))))) ?_
      (refine ss_sub hX (T' := [(5, .tt), (6, .ptr 2 0), (7, .int .u64 x.now), (8, mnV x.b 20 x.m)]) (H' := wdH (.obj (.rows N 2 (actR o))) (cAnd 7 r) x.z [mnE x.b x.m]) [0, 1, 2, 3, 4, 5, 6, 7, 8, 9, 10, 11, 12, 13, 14, 15, 16, 17, 18, 19, 20] rfl rfl rfl rfl ?tt ?hh ?ot ?ok hz; (case tt => (exact clhA)); (case hh => (exact clhA)); (case ot => (exact clkA)); (case ok => (exact clkA)))
set_option maxHeartbeats 8000000 in
theorem smallLast_nil (r : Int) (a : Option Addr) : Gives Tryz.prog 6 [.int .i64 r, .raw (.slice a 0 0)] [pinE RTV] (Is .tt [pinE RTV]) := by
  refine abs_gives1 (fun _ _ => rfl) (fun _ _ => rfl) (fun _ _ => rfl) (fun _ _ => rfl) ?_
  have hX := hXMa
  obtain ⟨c1, c2⟩ := cAnd7 r
  have hl := bgW_len (cAnd 7 r)
  have hl' := hl.symm
  refine gives_x hX (fn := Tryz.f6) rfl rfl rfl rfl fun ρ w => ?_
  refine sxb hX [.l] [] 4000 rfl (by first | exact trivial | simp [conjP, getH, HE.so]) ?_
  refine ss_raw hX 8 2 rfl rfl fun v0 => ?_
  refine ss_raw hX 8 3 rfl rfl fun v1 => ?_
  refine ss_raw hX 9 2 rfl rfl fun v2 => ?_
  refine ss_raw hX 9 3 rfl rfl fun v3 => ?_
  refine ss_raw hX 10 2 rfl rfl fun v4 => ?_
  refine ss_raw hX 10 3 rfl rfl fun v5 => ?_
  refine ss_raw hX 11 2 rfl rfl fun v6 => ?_
  refine ss_raw hX 11 3 rfl rfl fun v7 => ?_
  have hz := llp (bb := false) (N := 0) (o := fun _ => (0, 0)) (bm := false) (ρ := ρ) (w := w) (l2_of (ls0_ok (N := 0) c1 c2 (vv v0 v1 v2 v3 v4 v5 v6 v7))) rfl (fun _ => rfl)
  refine sxb hX [.r 18] [] 4000 rfl (by (simp [-List.getD_eq_getElem?_getD, -List.length_eq_zero_iff, conjP] <;> (first | omega | ((repeat' (refine And.intro ?_ ?_)) <;> (first | omega | exact decide_eq_false (by omega) | exact decide_eq_true (by omega)))))) ?_
  refine sxb hX [.r 18] [.F] 4000 rfl (by (simp [-List.getD_eq_getElem?_getD, -List.length_eq_zero_iff, conjP, addOP] <;> (first | omega | ((repeat' (refine And.intro ?_ ?_)) <;> (first | omega | exact decide_eq_false (by omega) | exact decide_eq_true (by omega)))))) ?_
  (refine ss_sub hX (T' := [(5, .tt), (6, .ptr 2 0), (7, .int .u64 0), (8, mnV false 20 [0])]) (H' := wdH (scE false 0 (fun _ => (0, 0))) (cAnd 7 r) (wd0 (cAnd 7 r) (vv v0 v1 v2 v3 v4 v5 v6 v7)) [mnE false [0]]) [0, 1, 2, 3, 4, 5, 6, 7, 8, 9, 10, 11, 60, 61, 62, 63, 64, 65, 66, 67, 12] rfl rfl rfl rfl ?tt ?hh ?ot ?ok hz; (case tt => (exact clhA)); (case hh => (exact clhA)); (case ot => (exact clkA)); (case ok => (exact clkA)))
end Go.Proofs.YtmghcelohnlceaaGreatDoor
namespace Go.Proofs.YtmghcelohnlceaaGreatDoor.smallLast
open Go Go.Hx
abbrev ks28 : List (Option IntKind) := [some .i64, some .i64]
theorem row_of (l : List SV) (h : okK ks28 l) : ∃ o : Int × Int, l = actR (fun _ => o) 0 := by
  rcases l with _ | ⟨a, _ | ⟨b, _ | ⟨c, r⟩⟩⟩ <;> simp only [okK, and_false] at h
  obtain ⟨⟨n1, rfl, _⟩, ⟨n2, rfl, _⟩, _⟩ := h
  exact ⟨(n1, n2), rfl⟩
theorem rows_of (o : Nat → List SV) (h : ∀ i, okK ks28 (o i)) : ∃ q : Nat → Int × Int, o = actR q :=
  ⟨fun i => Classical.choose (row_of (o i) (h i)), funext fun i => Classical.choose_spec (row_of (o i) (h i))⟩
theorem walk_nil (a : Option Addr) (k : Int) (_ : (Lit.int .i64 k).wf = true) : ∃ L, Gives Tryz.prog 6 [.int .i64 k, .raw (.slice a 0 0)] [pinE RTV] (Is .tt L) := ⟨_, smallLast_nil k a⟩
theorem walk (k : Int) (_ : (Lit.int .i64 k).wf = true) (o : Nat → List SV) (h : ∀ i, okK ks28 (o i)) (len cap : Nat) (_ : len ≤ maxLen) : ∃ L, Gives Tryz.prog 6 [.int .i64 k, .slice 0 0 len cap] [.obj (.rows len 2 o), pinE RTV] (Is .tt L) := by
  obtain ⟨q, rfl⟩ := rows_of o h
  exact ⟨_, smallLast_fn k len cap q⟩
end Go.Proofs.YtmghcelohnlceaaGreatDoor.smallLast
