/- TopicsPlay: rows, and the world over a heap. -/
import Derived.Test.YtkkddjchkkaagaaGreatDoorPlayLaw
import Derived.Test.YtkkddjchkkaagaaGreatDoorWorld
namespace Go.Proofs.YtkkddjchkkaagaaGreatDoor
open Go Go.Hx
set_option maxRecDepth 8000
section
variable {T : Nat} {R a b : Int} {x y : Bool} {W : List Int}
set_option maxHeartbeats 4000000 in
theorem busyVT_fn {q : Nat} (t1 : 1 ≤ T) (t4 : T ≤ 4) (r1 : 1 ≤ R) (r8 : R ≤ 8) (hl : W.length = 11 + 10 * T) (hw : ∀ j, 0 ≤ W.getD j 0 ∧ W.getD j 0 < 18446744073709551616) (hq : q < T) (eq : cMod (T : Int) b = (q : Int)) (g : liW (W.getD (cP T q) 0) = true) :
    Gives Tryz.prog 52 [C9 (T : Int) 4 1 4 4 1 6 0 R, .slice 0 0 W.length W.length, .agg [.int .i64 a, .int .i64 b, .bool x, .bool y]] [WO W] (Is (.tup [.int .i64 (cP T q : Int), .int .u64 (flW (W.getD (cP T q) 0))]) [WO W]) := by
  have hr := right_TR t1 t4 r1 r8
  have cn := ctl_at (R := R) hq
  have c1 := cP_lt' hl hq
  have w0 := (hw (cP T q)).1
  have w1 := (hw (cP T q)).2
  have tz : ¬ (T : Int) = 0 := by omega
  have eq' : (IntKind.i64.wrap (b.tmod (T : Int) + (T : Int))).tmod (T : Int) = (q : Int) := eq
  have e0 := ep_lo w0
  have e1 := ep_hi (w := W.getD (cP T q) 0)
  have e2 := ge_lo (w := W.getD (cP T q) 0)
  have e3 := ge_hi (w := W.getD (cP T q) 0)
  have e4 := bl_lo (w := W.getD (cP T q) 0)
  have e5 := bl_hi (w := W.getD (cP T q) 0)
  refine gives_x hXTx (fn := Tryz.f52) rfl rfl rfl rfl fun ρ w => ?_
  refine sx hXTx [] 4000 rfl (by (simp [-List.getD_eq_getElem?_getD, -List.length_eq_zero_iff, conjP, hr, eq', cn, c1, w0, w1, Int.toNat_natCast] <;> (first | omega | ((repeat' (refine And.intro ?_ ?_)) <;> (first | omega | exact decide_eq_false (by omega) | exact decide_eq_true (by omega)))))) ?_
  refine sx hXTx [.F] 4000 rfl (by (simp [-List.getD_eq_getElem?_getD, -List.length_eq_zero_iff, conjP, eq', cn, g, e0, e1, e2, e3, e4, e5, Int.toNat_natCast])) ?_
  (simp only [eq', cn, Int.toNat_natCast]; refine ss_end hXTx [0] rfl rfl trivial rfl rfl rfl rfl ?hv (by (repeat' (first | exact rfl | exact trivial | exact sim_refl _ | refine And.intro ?_ ?_))) (by (repeat' (first | exact rfl | exact trivial | exact sim_refl _ | refine And.intro ?_ ?_))) (by (repeat' (first | exact rfl | exact trivial | exact sim_refl _ | refine And.intro ?_ ?_))); (case hv => (repeat' (first | exact rfl | exact trivial | exact sim_refl _ | refine And.intro ?_ ?_)); done))
set_option maxHeartbeats 4000000 in
theorem busyVF_fn {q : Nat} (t1 : 1 ≤ T) (t4 : T ≤ 4) (r1 : 1 ≤ R) (r8 : R ≤ 8) (hl : W.length = 11 + 10 * T) (hw : ∀ j, 0 ≤ W.getD j 0 ∧ W.getD j 0 < 18446744073709551616) (hq : q < T) (eq : cMod (T : Int) b = (q : Int)) (g : liW (W.getD (cP T q) 0) = false) :
    Gives Tryz.prog 52 [C9 (T : Int) 4 1 4 4 1 6 0 R, .slice 0 0 W.length W.length, .agg [.int .i64 a, .int .i64 b, .bool x, .bool y]] [WO W] (Is (.tup [.int .i64 (-1), .int .u64 0]) [WO W]) := by
  have hr := right_TR t1 t4 r1 r8
  have cn := ctl_at (R := R) hq
  have c1 := cP_lt' hl hq
  have w0 := (hw (cP T q)).1
  have w1 := (hw (cP T q)).2
  have tz : ¬ (T : Int) = 0 := by omega
  have eq' : (IntKind.i64.wrap (b.tmod (T : Int) + (T : Int))).tmod (T : Int) = (q : Int) := eq
  refine gives_x hXTx (fn := Tryz.f52) rfl rfl rfl rfl fun ρ w => ?_
  refine sx hXTx [] 4000 rfl (by (simp [-List.getD_eq_getElem?_getD, -List.length_eq_zero_iff, conjP, hr, eq', cn, c1, w0, w1, Int.toNat_natCast] <;> (first | omega | ((repeat' (refine And.intro ?_ ?_)) <;> (first | omega | exact decide_eq_false (by omega) | exact decide_eq_true (by omega)))))) ?_
  refine sx hXTx [.T] 4000 rfl (by (simp [-List.getD_eq_getElem?_getD, -List.length_eq_zero_iff, conjP, addOP, eq', cn, g, Int.toNat_natCast])) ?_
  (refine ss_end hXTx [0] rfl rfl trivial rfl rfl rfl rfl ?hv (by (repeat' (first | exact rfl | exact trivial | exact sim_refl _ | refine And.intro ?_ ?_))) (by (repeat' (first | exact rfl | exact trivial | exact sim_refl _ | refine And.intro ?_ ?_))) (by (repeat' (first | exact rfl | exact trivial | exact sim_refl _ | refine And.intro ?_ ?_))); (case hv => (repeat' (first | exact rfl | exact trivial | exact sim_refl _ | refine And.intro ?_ ?_)); done))
end
def busyVS (T q : Nat) (li : Bool) : Hx.Spec := fun args H => match args with
  | [.agg [.int .i64 t, .int .i64 a1, .int .i64 a2, .int .i64 a3, .int .i64 a4, .int .i64 a5, .int .i64 a6, .int .i64 a7, .int .i64 R], .slice h 0 n n2, .agg [.int .i64 _, .int .i64 b, .bool _, .bool _]] => match getH H h with
    | some (.ints .u64 W 52) => some ([t = (T : Int), C9 t a1 a2 a3 a4 a5 a6 a7 R = C9 t 4 1 4 4 1 6 0 R, 1 ≤ T, T ≤ 4, 1 ≤ R, R ≤ 8, W.length = 11 + 10 * T, WR W, q < T, cMod (T : Int) b = (q : Int), liW (W.getD (cP T q) 0) = li, n = W.length, n2 = W.length], .tup [.int .i64 (if li then (cP T q : Int) else -1), .int .u64 (if li then flW (W.getD (cP T q) 0) else 0)], H.set h (WO W))
    | _ => none
  | _ => none
set_option maxHeartbeats 4000000 in
theorem busyVS_ok {T q : Nat} {li : Bool} {args : List SV} {H : List HE} {ob : List Prop} {V : SV} {L : List HE} (hs : busyVS T q li args H = some (ob, V, L)) (ho : AllP ob) : Gives Tryz.prog 52 args H (Is V L) := by
  unfold busyVS at hs
  split at hs
  case h_2 => simp at hs
  rename_i _ t a1 a2 a3 a4 a5 a6 a7 R h n n2 a b x y
  split at hs
  case h_2 => simp at hs
  rename_i W hg
  simp only [Option.some.injEq, Prod.mk.injEq] at hs
  obtain ⟨rfl, rfl, rfl⟩ := hs
  simp only [AllP, List.mem_cons, List.not_mem_nil, or_false, forall_eq_or_imp, forall_eq] at ho
  obtain ⟨rfl, q1, g1, g2, g3, g4, g5, g6, g7, g8, rfl, rfl, rfl⟩ := ho
  obtain ⟨rfl, rfl, rfl, rfl, rfl, rfl, rfl⟩ := C9_inj q1
  rcases hq : liW (W.getD (cP T q) 0) with _ | _
  · have := frame1 (N := []) ⟨_, hTE⟩ (busyVF_fn (a := a) (x := x) (y := y) g1 g2 g3 g4 g5 g6 g7 g8 hq) rfl rfl rfl hg rfl
    simp only [List.map_nil, List.append_nil] at this
    exact this
  · have := frame1 (N := []) ⟨_, hTE⟩ (busyVT_fn (a := a) (x := x) (y := y) g1 g2 g3 g4 g5 g6 g7 g8 hq) rfl rfl rfl hg rfl
    simp only [List.map_nil, List.append_nil] at this
    exact this
def DQ (T : Nat) (R : Int) (start : Nat) (s : TS) (W : List Int) (st kd wd vl : Int) (ch : Bool) (r : TR) (dp dp' : Int) : Prop := Dtp T R start s W st kd wd vl ch r dp dp'
def ZQ (rm dn : Bool) (r : TR) : Prop := dn = true → r.s.hd = false ∧ (rm = false → r.s.er ≠ 0 → r.s.tp = 0 ∧ r.s.ep = 0 ∧ r.s.tl = false)
/-- A client's step, of both, as a row; dn: it is done. -/
def stpS (rm dn : Bool) (T : Nat) (R : Int) (start : Nat) (s : TS) (r : TR) (dp : Int) : Hx.Spec := fun args H => match args with
  | [.ptr c 0, .ptr ha 0, .ptr hb 0] => match getH H c, arP H ha, raP H hb, getH H 1 with
    | some (.cells [u, v, .ptr hq 0, .int .i64 k] ty), some (hw, ⟨W, st, kd, wd, vl, ch⟩, ob1), some (hw2, ⟨W2, st2, kd2, wd2, vl2, ch2⟩, ob2), some (.pin 0 vp) =>
      match (bif rm then v else u) with
      | .ptr hr 0 => match getH H hr with
        | some (.cells (.ptr hh 0 :: vs) ty2) => match getH H hh, getH H hq, nodupN [c, hh, hr, hq, ha, hw, hb, hw2, 1] with
          | some o1, some o3, true => some ((SO.cells [u, v, .ptr hq 0, .int .i64 k] ty = .cells [bif rm then .nilptr else .ptr hr 0, bif rm then .ptr hr 0 else .nilptr, .ptr hq 0, .int .i64 k] 96) :: (SO.cells (.ptr hh 0 :: vs) ty2 = ruC hh s) :: (o1 = hoC (T : Int) R hr hh s) :: (o3 = drC (T : Int) R s (dpl T start s)) ::
              (W2 = W) :: (st2 = st) :: (kd2 = kd) :: (wd2 = wd) :: (vl2 = vl) :: (ch2 = ch) :: (vp = RTV) :: (s.rm = rm) :: (r.s.rm = rm) :: TPre T R start s W st :: (tStep T R start s W st = r) :: DQ T R start s W st kd wd vl ch r (dpl T start s) dp :: (decide (r.s.ph = 0) = dn) :: ZQ rm dn r :: ob1 ++ ob2, .tt,
              (((((((((H.set c (.obj (.cells [bif dn then .nilptr else (bif rm then .nilptr else .ptr hr 0), bif dn then .nilptr else (bif rm then .ptr hr 0 else .nilptr), .ptr hq 0, .int .i64 k] 96))).set hh (.obj (hoC (T : Int) R hr hh r.s))).set hr (.obj (ruC hh r.s))).set hq (.obj (drC (T : Int) R r.s dp))).set ha (AOx hw r.W (st + 1) r.kd r.wd r.vl r.ch)).set hw (WO r.W)).set hb (ROx hw2 r.W (st + 1) r.kd r.wd r.vl r.ch)).set hw2 (WO r.W)).set 1 (pinE RTV)))
          | _, _, _ => none
        | _ => none
      | _ => none
    | _, _, _, _ => none
  | _ => none
theorem okHs9 {T : Nat} {R : Int} {s : TS} {dp k st kd wd vl : Int} {ch rm : Bool} {W : List Int} : okHs (there [.obj (pcO rm k), .obj (hoC (T : Int) R 2 1 s), .obj (ruC 1 s), .obj (drC (T : Int) R s dp), AOx 5 W st kd wd vl ch, WO W, ROx 7 W st kd wd vl ch, WO W, pinE RTV]) [.obj (pcO rm k), .obj (hoC (T : Int) R 2 1 s), .obj (ruC 1 s), .obj (drC (T : Int) R s dp), AOx 5 W st kd wd vl ch, WO W, ROx 7 W st kd wd vl ch, WO W, pinE RTV] = true := by
  have e1 : (ruC 1 s).okh (there [.obj (pcO rm k), .obj (hoC (T : Int) R 2 1 s), .obj (ruC 1 s), .obj (drC (T : Int) R s dp), AOx 5 W st kd wd vl ch, WO W, ROx 7 W st kd wd vl ch, WO W, pinE RTV]) = true := okh_ruC rfl
  have e2 : (hoC (T : Int) R 2 1 s).okh (there [.obj (pcO rm k), .obj (hoC (T : Int) R 2 1 s), .obj (ruC 1 s), .obj (drC (T : Int) R s dp), AOx 5 W st kd wd vl ch, WO W, ROx 7 W st kd wd vl ch, WO W, pinE RTV]) = true := okh_hoC rfl rfl
  simp only [okHs, e1, e2, Bool.true_and]
  cases rm <;> rfl
theorem ren_pcO {rm : Bool} {k : Int} {σ : Nat → Nat} : (pcO rm k).ren σ = .cells [bif rm then .nilptr else .ptr (σ 2) 0, bif rm then .ptr (σ 2) 0 else .nilptr, .ptr (σ 3) 0, .int .i64 k] 96 := by cases rm <;> rfl
set_option maxHeartbeats 8000000 in
theorem stpS_ok {rm dn : Bool} {T : Nat} {R : Int} {start : Nat} {s : TS} {r : TR} {dp : Int} {args : List SV} {H : List HE} {ob : List Prop} {V : SV} {L : List HE} (hs : stpS rm dn T R start s r dp args H = some (ob, V, L)) (ho : AllP ob) : Gives Tryz.prog 71 args H (Is V L) := by
  unfold stpS at hs
  split at hs
  case h_2 => simp at hs
  rename_i _ c ha hb
  split at hs
  case h_2 => simp at hs
  rename_i _ _ _ _ u v hq k ty hw W st kd wd vl ch ob1 hw2 W2 st2 kd2 wd2 vl2 ch2 ob2 vp hgc hpa hpb hgp
  split at hs
  case h_2 => simp at hs
  rename_i _ hr hu
  split at hs
  case h_2 => simp at hs
  rename_i _ hh vs ty2 hgr
  split at hs
  case h_2 => simp at hs
  rename_i _ _ _ o1 o3 hgh hgd hnd
  simp only [Option.some.injEq, Prod.mk.injEq] at hs
  obtain ⟨rfl, rfl, rfl⟩ := hs
  simp only [AllP, List.cons_append, List.mem_cons, List.mem_append, forall_eq_or_imp] at ho
  obtain ⟨q1, q2, q3, q4, rfl, rfl, rfl, rfl, rfl, rfl, rfl, e1, e2, P, hst, hD, hdn, hz, hob⟩ := ho
  obtain ⟨a1, a2, _⟩ := arP_get hpa (fun q hq => hob q (.inl hq))
  obtain ⟨b1, b2, _⟩ := raP_get hpb (fun q hq => hob q (.inr hq))
  rw [q1] at hgc
  rw [q2] at hgr
  rw [q3] at hgh
  rw [q4] at hgd
  obtain ⟨rm0, lg, key, ph, seq, j0, fd, hd, tm, er, pl, sn, fl, bk, ep, tp, tl⟩ := s
  obtain ⟨⟨rm', lg', key', ph', seq', j', fd', hd', tm', er', pl', sn', fl', bk', ep', tp', tl'⟩, W', kd', wd', vl', ch'⟩ := r
  unfold DQ at hD
  unfold ZQ at hz
  dsimp only at e1 e2 hz hdn
  subst e1; subst e2
  have fr : ∀ (cl' : SO) (h' r' d' : SO) (A' B' C' D' : SO), Gives Tryz.prog 71 [.ptr 0 0, .ptr 4 0, .ptr 6 0] [.obj (pcO rm' k), .obj (hoC (T : Int) R 2 1 ⟨rm', lg, key, ph, seq, j0, fd, hd, tm, er, pl, sn, fl, bk, ep, tp, tl⟩), .obj (ruC 1 ⟨rm', lg, key, ph, seq, j0, fd, hd, tm, er, pl, sn, fl, bk, ep, tp, tl⟩), .obj (drC (T : Int) R ⟨rm', lg, key, ph, seq, j0, fd, hd, tm, er, pl, sn, fl, bk, ep, tp, tl⟩ (dpl T start ⟨rm', lg, key, ph, seq, j0, fd, hd, tm, er, pl, sn, fl, bk, ep, tp, tl⟩)), AOx 5 W2 st2 kd2 wd2 vl2 ch2, WO W2, ROx 7 W2 st2 kd2 wd2 vl2 ch2, WO W2, pinE RTV] (Is .tt [.obj cl', .obj h', .obj r', .obj d', .obj A', .obj B', .obj C', .obj D', pinE RTV]) →
      Gives Tryz.prog 71 [.ptr c 0, .ptr ha 0, .ptr hb 0] H (Is .tt (((((((((H.set c (.obj (cl'.ren (nm [c, hh, hr, hq, ha, hw, hb, hw2, 1] H)))).set hh (.obj (h'.ren (nm [c, hh, hr, hq, ha, hw, hb, hw2, 1] H)))).set hr (.obj (r'.ren (nm [c, hh, hr, hq, ha, hw, hb, hw2, 1] H)))).set hq (.obj (d'.ren (nm [c, hh, hr, hq, ha, hw, hb, hw2, 1] H)))).set ha (.obj (A'.ren (nm [c, hh, hr, hq, ha, hw, hb, hw2, 1] H)))).set hw (.obj (B'.ren (nm [c, hh, hr, hq, ha, hw, hb, hw2, 1] H)))).set hb (.obj (C'.ren (nm [c, hh, hr, hq, ha, hw, hb, hw2, 1] H)))).set hw2 (.obj (D'.ren (nm [c, hh, hr, hq, ha, hw, hb, hw2, 1] H)))).set 1 (pinE RTV))) := by
    intro cl' h' r' d' A' B' C' D' hF
    have := gives_frame (H := H) ⟨_, hTE⟩ hF [c, hh, hr, hq, ha, hw, hb, hw2, 1] (show [SV.ptr c 0, .ptr ha 0, .ptr hb 0] = _ from rfl) rfl rfl rfl okHs9 hnd ⟨by rw [ren_pcO]; exact hgc, by rw [ren_hoC]; exact hgh, by rw [ren_ruC]; exact hgr, by rw [ren_drC]; exact hgd, a1, a2, b1, b2, hgp, trivial⟩ rfl
    simp [merge, setAll, HE.ren] at this
    exact this
  rcases dn with _ | _
  · have e0 : ¬ ph' = 0 := of_decide_eq_false hdn
    rcases rm' with _ | _
    · have := fr _ _ _ _ _ _ _ _ (stnc (k := k) P hst hD e0)
      rw [ren_pcO, ren_hoC, ren_ruC, ren_drC] at this
      exact this
    · have := fr _ _ _ _ _ _ _ _ (stnr (k := k) P hst hD e0)
      rw [ren_pcO, ren_hoC, ren_ruC, ren_drC] at this
      exact this
  · obtain rfl : ph' = 0 := of_decide_eq_true hdn
    obtain ⟨rfl, hz2⟩ := hz rfl
    rcases rm' with _ | _
    · by_cases hn : er' = 0
      · subst hn
        have := fr _ _ _ _ _ _ _ _ (stdcz (k := k) P hst hD)
        rw [ren_hoC, ren_ruC, ren_drC] at this
        exact this
      · obtain ⟨rfl, rfl, rfl⟩ := hz2 rfl hn
        have := fr _ _ _ _ _ _ _ _ (stdcn (k := k) P hst hD hn)
        rw [ren_hoC, ren_ruC, ren_drC] at this
        exact this
    · by_cases hn : er' = 0
      · subst hn
        have := fr _ _ _ _ _ _ _ _ (stdrz (k := k) P hst hD)
        rw [ren_hoC, ren_ruC, ren_drC] at this
        exact this
      · have := fr _ _ _ _ _ _ _ _ (stdrn (k := k) P hst hD hn)
        rw [ren_hoC, ren_ruC, ren_drC] at this
        exact this
end Go.Proofs.YtkkddjchkkaagaaGreatDoor
