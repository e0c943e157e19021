/- A control word that is Busy from now on, or not any more; the world of these laws, over a heap. -/
import Derived.Test.YtkkddjchkkaagaaGreatDoorStepLaw
namespace Go.Proofs.YtkkddjchkkaagaaGreatDoor
open Go Go.Hx
set_option maxRecDepth 8000
abbrev wdE (l : List Int) : HE := .obj (.buf .u64 l 1 52)
def flW (w : Int) : Int := pkV (epW w) (geW w) (blW w) (b2 (liW w)) (b2 (!(buW w)))
theorem fl_r {w : Int} (h0 : 0 ≤ w) (h1 : w < 18446744073709551616) : 0 ≤ flW w ∧ flW w < 18446744073709551616 := pk_r (fitW h0 h1) _ _
theorem fl_li {w : Int} (h0 : 0 ≤ w) (h1 : w < 18446744073709551616) : liW (flW w) = liW w := li_pk (fitW h0 h1) _ _
section
variable {T : Nat} {R a b : Int} {x y : Bool} {W : List Int}
theorem busy_ctl (t1 : 1 ≤ T) (t4 : T ≤ 4) (b : Int) : ∃ q : Nat, q < T ∧ cMod (T : Int) b = (q : Int) := by
  obtain ⟨h0, h1⟩ := cModB (T : Int) b (by omega) (by omega)
  exact ⟨(cMod (T : Int) b).toNat, by omega, by omega⟩
set_option maxHeartbeats 4000000 in
theorem busyT_fn {q : Nat} (t1 : 1 ≤ T) (t4 : T ≤ 4) (r1 : 1 ≤ R) (r8 : R ≤ 8) (hl : W.length = 11 + 10 * T) (hw : ∀ j, 0 ≤ W.getD j 0 ∧ W.getD j 0 < 18446744073709551616) (hq : q < T) (eq : cMod (T : Int) b = (q : Int)) (g : liW (W.getD (cP T q) 0) = true) :
    Gives Tryz.prog 52 [C9 (T : Int) 4 1 4 4 1 6 0 R, .sbuf 0 1 0 W.length, .agg [.int .i64 a, .int .i64 b, .bool x, .bool y]] [wdE W] (Is (.tup [.int .i64 (cP T q : Int), .int .u64 (flW (W.getD (cP T q) 0))]) [wdE W]) := by
  have hr := right_TR t1 t4 r1 r8
  have cn := ctl_at (R := R) hq
  have c1 := cP_lt' hl hq
  have w0 := (hw (cP T q)).1
  have w1 := (hw (cP T q)).2
  have tz : ¬ (T : Int) = 0 := by omega
  have eq' : (IntKind.i64.wrap (b.tmod (T : Int) + (T : Int))).tmod (T : Int) = (q : Int) := eq
  have e0 := ep_lo w0
  have e1 := ep_hi (w := W.getD (cP T q) 0)
  have e2 := ge_lo (w := W.getD (cP T q) 0)
  have e3 := ge_hi (w := W.getD (cP T q) 0)
  have e4 := bl_lo (w := W.getD (cP T q) 0)
  have e5 := bl_hi (w := W.getD (cP T q) 0)
  refine gives_x hXTx (fn := Tryz.f52) rfl rfl rfl rfl fun ρ w => ?_
  refine sx hXTx [] 4000 rfl (by (simp [-List.getD_eq_getElem?_getD, -List.length_eq_zero_iff, conjP, hr, eq', cn, c1, w0, w1, Int.toNat_natCast, cellOff] <;> (first | omega | ((repeat' (refine And.intro ?_ ?_)) <;> (first | omega | exact decide_eq_false (by omega) | exact decide_eq_true (by omega)))))) ?_
  refine sx hXTx [.F] 4000 rfl (by (simp [-List.getD_eq_getElem?_getD, -List.length_eq_zero_iff, conjP, eq', cn, g, e0, e1, e2, e3, e4, e5, Int.toNat_natCast, cellOff])) ?_
  (simp only [eq', cn, Int.toNat_natCast]; refine ss_end hXTx [0] rfl rfl trivial rfl rfl rfl rfl ?hv (by (repeat' (first | exact rfl | exact trivial | exact sim_refl _ | refine And.intro ?_ ?_))) (by (repeat' (first | exact rfl | exact trivial | exact sim_refl _ | refine And.intro ?_ ?_))) (by (repeat' (first | exact rfl | exact trivial | exact sim_refl _ | refine And.intro ?_ ?_))); (case hv => (repeat' (first | exact rfl | exact trivial | exact sim_refl _ | refine And.intro ?_ ?_)); done))
set_option maxHeartbeats 4000000 in
theorem busyF_fn {q : Nat} (t1 : 1 ≤ T) (t4 : T ≤ 4) (r1 : 1 ≤ R) (r8 : R ≤ 8) (hl : W.length = 11 + 10 * T) (hw : ∀ j, 0 ≤ W.getD j 0 ∧ W.getD j 0 < 18446744073709551616) (hq : q < T) (eq : cMod (T : Int) b = (q : Int)) (g : liW (W.getD (cP T q) 0) = false) :
    Gives Tryz.prog 52 [C9 (T : Int) 4 1 4 4 1 6 0 R, .sbuf 0 1 0 W.length, .agg [.int .i64 a, .int .i64 b, .bool x, .bool y]] [wdE W] (Is (.tup [.int .i64 (-1), .int .u64 0]) [wdE W]) := by
  have hr := right_TR t1 t4 r1 r8
  have cn := ctl_at (R := R) hq
  have c1 := cP_lt' hl hq
  have w0 := (hw (cP T q)).1
  have w1 := (hw (cP T q)).2
  have tz : ¬ (T : Int) = 0 := by omega
  have eq' : (IntKind.i64.wrap (b.tmod (T : Int) + (T : Int))).tmod (T : Int) = (q : Int) := eq
  refine gives_x hXTx (fn := Tryz.f52) rfl rfl rfl rfl fun ρ w => ?_
  refine sx hXTx [] 4000 rfl (by (simp [-List.getD_eq_getElem?_getD, -List.length_eq_zero_iff, conjP, hr, eq', cn, c1, w0, w1, Int.toNat_natCast, cellOff] <;> (first | omega | ((repeat' (refine And.intro ?_ ?_)) <;> (first | omega | exact decide_eq_false (by omega) | exact decide_eq_true (by omega)))))) ?_
  refine sx hXTx [.T] 4000 rfl (by (simp [-List.getD_eq_getElem?_getD, -List.length_eq_zero_iff, conjP, addOP, eq', cn, g, Int.toNat_natCast, cellOff])) ?_
  (refine ss_end hXTx [0] rfl rfl trivial rfl rfl rfl rfl ?hv (by (repeat' (first | exact rfl | exact trivial | exact sim_refl _ | refine And.intro ?_ ?_))) (by (repeat' (first | exact rfl | exact trivial | exact sim_refl _ | refine And.intro ?_ ?_))) (by (repeat' (first | exact rfl | exact trivial | exact sim_refl _ | refine And.intro ?_ ?_))); (case hv => (repeat' (first | exact rfl | exact trivial | exact sim_refl _ | refine And.intro ?_ ?_)); done))
end
def WR (W : List Int) : Prop := ∀ j, 0 ≤ W.getD j 0 ∧ W.getD j 0 < 18446744073709551616
def busyS (T q : Nat) (li : Bool) : Hx.Spec := fun args H => match args with
  | [.agg [.int .i64 t, .int .i64 a1, .int .i64 a2, .int .i64 a3, .int .i64 a4, .int .i64 a5, .int .i64 a6, .int .i64 a7, .int .i64 R], .sbuf h 1 0 n, .agg [.int .i64 _, .int .i64 b, .bool _, .bool _]] => match getH H h with
    | some (.buf .u64 W 1 52) => some ([t = (T : Int), C9 t a1 a2 a3 a4 a5 a6 a7 R = C9 t 4 1 4 4 1 6 0 R, 1 ≤ T, T ≤ 4, 1 ≤ R, R ≤ 8, W.length = 11 + 10 * T, WR W, q < T, cMod (T : Int) b = (q : Int), liW (W.getD (cP T q) 0) = li, n = W.length], .tup [.int .i64 (if li then (cP T q : Int) else -1), .int .u64 (if li then flW (W.getD (cP T q) 0) else 0)], H.set h (wdE W))
    | _ => none
  | _ => none
set_option maxHeartbeats 4000000 in
theorem busyS_ok {T q : Nat} {li : Bool} {args : List SV} {H : List HE} {ob : List Prop} {V : SV} {L : List HE} (hs : busyS T q li args H = some (ob, V, L)) (ho : AllP ob) : Gives Tryz.prog 52 args H (Is V L) := by
  unfold busyS at hs
  split at hs
  case h_2 => simp at hs
  rename_i _ t a1 a2 a3 a4 a5 a6 a7 R h n a b x y
  split at hs
  case h_2 => simp at hs
  rename_i W hg
  simp only [Option.some.injEq, Prod.mk.injEq] at hs
  obtain ⟨rfl, rfl, rfl⟩ := hs
  simp only [AllP, List.mem_cons, List.not_mem_nil, or_false, forall_eq_or_imp, forall_eq] at ho
  obtain ⟨rfl, q1, g1, g2, g3, g4, g5, g6, g7, g8, rfl, rfl⟩ := ho
  obtain ⟨rfl, rfl, rfl, rfl, rfl, rfl, rfl⟩ := C9_inj q1
  rcases hq : liW (W.getD (cP T q) 0) with _ | _
  · have := frame1 (N := []) ⟨_, hTE⟩ (busyF_fn (a := a) (x := x) (y := y) g1 g2 g3 g4 g5 g6 g7 g8 hq) rfl rfl rfl hg rfl
    simp only [List.map_nil, List.append_nil] at this
    exact this
  · have := frame1 (N := []) ⟨_, hTE⟩ (busyT_fn (a := a) (x := x) (y := y) g1 g2 g3 g4 g5 g6 g7 g8 hq) rfl rfl rfl hg rfl
    simp only [List.map_nil, List.append_nil] at this
    exact this
/-! The world of these laws. -/
def crP (o : Option TS) (h : Nat) : SV := match o with | none => .nilptr | some s => bif s.rm then .nilptr else .ptr h 0
def rmP (o : Option TS) (h : Nat) : SV := match o with | none => .nilptr | some s => bif s.rm then .ptr h 0 else .nilptr
def hdE (T R : Int) (o : Option TS) (hr hh : Nat) : HE := match o with | none => .absent | some s => .obj (hoC T R hr hh s)
def ruE (o : Option TS) (hh : Nat) : HE := match o with | none => .absent | some s => .obj (ruC hh s)
def clE (o : Option TS) (h : Nat) (p : Value) (k : Int) : HE := .obj (clO (crP o h) (rmP o h) p k)
abbrev cfE (T R : Int) : HE := .obj (.cells [.int .i64 T, .int .i64 4, .int .i64 1, .int .i64 4, .int .i64 4, .int .i64 1, .int .i64 6, .int .i64 0, .int .i64 R] 43)
abbrev arE (a b c : Nat) : HE := .obj (.cells [.ptr a 0, .ptr b 0, .ptr c 0] 91)
structure Tq where
  (W : List Int) (st kd wd vl : Int) (ch : Bool) (c0 c1 c2 : Option TS) (p0 p1 p2 : Value) (k0 k1 k2 : Int)
def tqH (e : HE) (T R : Int) (z : Tq) (x : List HE) : List HE :=
  e :: pinE RTV :: cfE T R :: AOx 4 z.W z.st z.kd z.wd z.vl z.ch :: WO z.W :: arE 6 7 8 :: clE z.c0 10 z.p0 z.k0 :: clE z.c1 12 z.p1 z.k1 :: clE z.c2 14 z.p2 z.k2 ::
    hdE T R z.c0 10 9 :: ruE z.c0 9 :: hdE T R z.c1 12 11 :: ruE z.c1 11 :: hdE T R z.c2 14 13 :: ruE z.c2 13 :: x
section
variable {σ : Nat → Nat} {H H' : List HE} {h h' g g' i : Nat} {T R : Int} {o : Option TS} {p : Value} {k : Int}
theorem ren_crP : (crP o h).ren σ = crP o (σ h) := by
  rcases o with _ | s
  · rfl
  · unfold crP; dsimp only; cases s.rm <;> rfl
theorem ren_rmP : (rmP o h).ren σ = rmP o (σ h) := by
  rcases o with _ | s
  · rfl
  · unfold rmP; dsimp only; cases s.rm <;> rfl
theorem ren_hdE : (hdE T R o h g).ren σ = hdE T R o (σ h) (σ g) := by
  rcases o with _ | s
  · rfl
  · unfold hdE; dsimp only [HE.ren]; rw [ren_hoC]
theorem ren_ruE : (ruE o h).ren σ = ruE o (σ h) := by
  rcases o with _ | s
  · rfl
  · unfold ruE; dsimp only [HE.ren]; rw [ren_ruC]
theorem sim_crP (hs : σ h = h') : sim (crP o h') ((crP o h).ren σ) := by subst hs; rw [ren_crP]; exact sim_refl _
theorem sim_rmP (hs : σ h = h') : sim (rmP o h') ((rmP o h).ren σ) := by subst hs; rw [ren_rmP]; exact sim_refl _
theorem okP_crP (e : thereF H' h = (ruE o i).there) : okP (thereF H') (crP o h) := by
  rcases o with _ | s
  · trivial
  · unfold crP
    dsimp only
    cases s.rm
    · simpa [okP, ruE, HE.there] using e
    · trivial
theorem okP_rmP (e : thereF H' h = (ruE o i).there) : okP (thereF H') (rmP o h) := by
  rcases o with _ | s
  · trivial
  · unfold rmP
    dsimp only
    cases s.rm
    · trivial
    · simpa [okP, ruE, HE.there] using e
theorem subE_hdE (hg : H[σ i]? = some (hdE T R o h' g')) (hs : σ h = h') (hs2 : σ g = g') : subE σ H i (hdE T R o h g) := by
  subst hs; subst hs2
  cases o with
  | none => trivial
  | some s =>
    simp only [hdE] at hg
    simp only [hdE, subE, getH_some.2 hg, simG, ren_hoC]
    exact simO_refl _
theorem subE_ruE (hg : H[σ i]? = some (ruE o h')) (hs : σ h = h') : subE σ H i (ruE o h) := by
  subst hs
  cases o with
  | none => trivial
  | some s =>
    simp only [ruE] at hg
    simp only [ruE, subE, getH_some.2 hg, simG, ren_ruC]
    exact simO_refl _
theorem okP_nxV {A : Nat → Bool} {rm : Bool} {ph a b : Nat} (ha : A a = true) (hb : A b = true) : okP A (nxV rm ph a b) := by
  unfold nxV
  split <;> first | exact trivial | exact ⟨⟨hb, trivial⟩, trivial⟩ | (cases rm <;> exact ⟨⟨ha, trivial⟩, trivial⟩)
theorem okP_hlV {A : Nat → Bool} {rm : Bool} {a : Nat} (ha : A a = true) : okP A (hlV rm a) := by cases rm <;> exact ⟨⟨ha, trivial⟩, trivial⟩
theorem okE_hdE {A : Nat → Bool} (e : A h = (ruE o i).there) (e2 : A g = (hdE T R o h g).there) : okE A (hdE T R o h g) := by
  cases o with
  | none => trivial
  | some s => show okPs A _; repeat' (first | exact okP_nxV e e2 | exact okP_hlV e | exact okP_erV | exact trivial | refine And.intro ?_ ?_)
theorem okE_ruE {A : Nat → Bool} (e : A g = (hdE T R o h g).there) : okE A (ruE o g) := by
  cases o with
  | none => trivial
  | some s =>
    unfold ruE ruC
    dsimp only
    cases s.rm <;> exact ⟨e, by repeat' (first | exact trivial | refine And.intro ?_ ?_)⟩
end
end Go.Proofs.YtkkddjchkkaagaaGreatDoor
