/- TopicsPlay: the world of a turn, and what is so. -/
import Derived.Test.YtkkddjchkkaagaaGreatDoorPlayRows
import Derived.Test.YtkkddjchkkaagaaGreatDoorSame
import Derived.Test.YtkkddjchkkaagaaGreatDoorScript
namespace Go.Proofs.YtkkddjchkkaagaaGreatDoor
open Go Go.Hx
set_option maxRecDepth 8000
def drP (o : Option TS) (h : Nat) (p : Value) : SV := match o with | none => .raw p | some _ => .ptr h 0
def drE (T : Nat) (R : Int) (o : Option TS) : HE := match o with | none => .absent | some s => .obj (drC (T : Int) R s (dpl T (sfT T R s.key) s))
def cyE (o : Option TS) (hr hd : Nat) (p : Value) (k : Int) : HE := .obj (.cells [crP o hr, rmP o hr, drP o hd p, .int .i64 k] 96)
def yqH (e : HE) (T : Nat) (R : Int) (z : Tq) (x : List HE) : List HE :=
  e :: pinE RTV :: cfE (T : Int) R :: AOx 4 z.W z.st z.kd z.wd z.vl z.ch :: WO z.W :: ROx 6 z.W z.st z.kd z.wd z.vl z.ch :: WO z.W :: arE 8 9 10 :: cyE z.c0 12 13 z.p0 z.k0 :: cyE z.c1 15 16 z.p1 z.k1 :: cyE z.c2 18 19 z.p2 z.k2 ::
    hdE (T : Int) R z.c0 12 11 :: ruE z.c0 11 :: drE T R z.c0 :: hdE (T : Int) R z.c1 15 14 :: ruE z.c1 14 :: drE T R z.c1 :: hdE (T : Int) R z.c2 18 17 :: ruE z.c2 17 :: drE T R z.c2 :: x
section
variable {σ : Nat → Nat} {H H' : List HE} {h h' g i : Nat} {T : Nat} {R : Int} {o : Option TS} {p : Value}
theorem ren_drP : (drP o h p).ren σ = drP o (σ h) p := by cases o <;> rfl
theorem ren_drE : (drE T R o).ren σ = drE T R o := by cases o <;> rfl
theorem sim_drP (hs : σ h = h') : sim (drP o h' p) ((drP o h p).ren σ) := by subst hs; rw [ren_drP]; exact sim_refl _
theorem okP_drP (e : thereF H' h = (drE T R o).there) : okP (thereF H') (drP o h p) := by
  cases o <;> first | exact trivial | simpa [drP, okP, drE, HE.there] using e
theorem okE_drE {A : Nat → Bool} : okE A (drE T R o) := by
  cases o with
  | none => trivial
  | some s => show okPs A _; repeat' (first | exact trivial | refine And.intro ?_ ?_)
end
theorem clhY {P : Prop} (h : P := by repeat' (first | exact rfl | exact trivial | exact sim_refl _ | exact simO_refl _ | exact sim_erV | exact subE_same rfl ren_scE | exact subE_same rfl ren_drE | exact sim_drP rfl | exact subE_hdE rfl rfl rfl | exact subE_ruE rfl rfl | exact sim_crP rfl | exact sim_rmP rfl | assumption | refine And.intro ?_ ?_)) : P := h
theorem clkY {P : Prop} (h : P := by repeat' (first | exact rfl | exact trivial | exact okE_scE | exact okE_drE | exact okE_hdE (i := 11) rfl rfl | exact okE_hdE (i := 14) rfl rfl | exact okE_hdE (i := 17) rfl rfl | exact okE_ruE (h := 12) rfl | exact okE_ruE (h := 15) rfl | exact okE_ruE (h := 18) rfl | exact okP_crP (i := 11) rfl | exact okP_crP (i := 14) rfl | exact okP_crP (i := 17) rfl | exact okP_rmP (i := 11) rfl | exact okP_rmP (i := 14) rfl | exact okP_rmP (i := 17) rfl | exact okP_drP rfl | exact okP_erV | refine And.intro ?_ ?_)) : P := h
structure TP where
  (T : Nat) (R : Int) (sf q : Nat) (li back dn : Bool) (s : TS) (r : TR) (dp : Int)
def etAc : Nat → Option (List (Option IntKind))
  | 61 => some [some .i64, some .i64, some .u64, none]
  | _ => none
theorem etAc_ok : ∀ t ks, etAc t = some ks → EqOk Tryz.prog t ks := by
  intro t ks h
  unfold etAc at h
  split at h
  · simp at h; subst h
    exact eqOk_of (by kernel_rfl) (by kernel_rfl)
  · simp at h
def ctTl0 (p : TP) : Nat → Option Hx.Spec
  | 52 => some (busyVS p.T p.q p.li)
  | 54 => some (begS p.T p.back)
  | 71 => some (stpS p.s.rm p.dn p.T p.R p.sf p.s p.r p.dp)
  | 28 => some (arStoreS)
  | 49 => some (arLastS)
  | 36 => some (arStepsS)
  | 41 => some (raStoreS)
  | _ => none
theorem ctTl0_ok (p : TP) : ∀ f s args H ob V L, ctTl0 p f = some s → s args H = some (ob, V, L) → AllP ob → Gives Tryz.prog f args H (Is V L) := by
  intro f s args H ob V L h hs ho
  unfold ctTl0 at h
  split at h
  · simp at h; subst h; exact busyVS_ok hs ho
  · simp at h; subst h; exact begS_ok hs ho
  · simp at h; subst h; exact stpS_ok hs ho
  · simp at h; subst h; exact arStoreS_ok hs ho
  · simp at h; subst h; exact arLastS_ok hs ho
  · simp at h; subst h; exact arStepsS_ok hs ho
  · simp at h; subst h; exact raStoreS_ok hs ho
  · simp at h
noncomputable def XTl (p : TP) : Tabs := tabs tr ft xt etAc (ctTl0 p) 0
theorem hXTl (p : TP) : TOk Tryz.prog (XTl p) := ⟨hTE, hFT, ctTl0_ok p, hXT, fun t ks h => etAc_ok t ks h, mixed⟩
def ctTm : Nat → Option Hx.Spec
  | 53 => some (arWordsS)
  | 72 => some (sameS)
  | _ => none
theorem ctTm_ok : ∀ f s args H ob V L, ctTm f = some s → s args H = some (ob, V, L) → AllP ob → Gives Tryz.prog f args H (Is V L) := by
  intro f s args H ob V L h hs ho
  unfold ctTm at h
  split at h
  · simp at h; subst h; exact arWordsS_ok hs ho
  · simp at h; subst h; exact sameS_ok hs ho
  · simp at h
noncomputable def XTm : Tabs := tabs tr ft xt (fun _ => none) ctTm 0
theorem hXTm : TOk Tryz.prog (XTm) := ⟨hTE, hFT, ctTm_ok, hXT, fun t ks h => by simp [XTm, tabs] at h, mixed⟩
structure AS where
  (i : Nat) (z : Tq)
def ypT (N cap : Nat) (x : AS) : List (Nat × SV) := [(1, .slice 0 0 N cap), (5, .tt), (6, .ptr 2 0), (7, .ptr 3 0), (9, .ptr 5 0), (10, .slice 7 0 3 3), (11, .int .i64 (x.i : Int))]
def ypK (K : Nat) (N cap : Nat) (x : AS) : List (Nat × SV) := [(1, .slice 0 0 N cap), (5, .tt), (6, .ptr 2 0), (7, .ptr 3 0), (9, .ptr 5 0), (10, .slice 7 0 3 3), (11, .int .i64 (x.i : Int)), (15, .ptr (8 + K) 0)]
def ypH (N : Nat) (o : Nat → Int × Int × Bool × Bool) (T : Nat) (R : Int) (x : AS) : List HE := yqH (.obj (.rows N 4 (actR o))) T R x.z []
structure YC (T : Nat) (R n : Int) (s : TS) : Prop where
  c : TC T R n s
  p : PC s
theorem YC.mono {T : Nat} {R n m : Int} {s : TS} (C : YC T R n s) (h : n ≤ m) : YC T R m s := ⟨C.c.mono h, C.p⟩
def okO {α : Type} (P : α → Prop) : Option α → Prop
  | none => True
  | some s => P s
theorem okO_mono {T : Nat} {R n m : Int} (h : n ≤ m) : ∀ {o : Option TS}, okO (YC T R n) o → okO (YC T R m) o
  | none, _ => trivial
  | some _, C => YC.mono C h
structure YInv (T : Nat) (R : Int) (N : Nat) (x : AS) : Prop where
  b : BI T R (2 * (x.i : Int)) x.z.W x.z.st
  c0 : okO (YC T R (2 * (x.i : Int))) x.z.c0
  c1 : okO (YC T R (2 * (x.i : Int))) x.z.c1
  c2 : okO (YC T R (2 * (x.i : Int))) x.z.c2
  hn : x.i ≤ N
  hi : x.i ≤ 150
theorem YInv.facts {T : Nat} {R : Int} {N : Nat} {x : AS} (h' : YInv T R N x) (hin : x.i < N) (hi : x.i < 150) : (x.i : Int) < (N : Int) ∧ (x.i : Int) < 150 ∧ IntKind.i64.wrap ((x.i : Int) + 1) = ((x.i + 1 : Nat) : Int) ∧
    1 ≤ T ∧ T ≤ 4 ∧ 1 ≤ R ∧ R ≤ 8 ∧ x.z.W.length = 11 + 10 * T ∧ 0 ≤ x.z.st ∧ x.z.st < 1000000 ∧ WR x.z.W := by
  have b := h'.b
  have h1 := b.s0
  have h2 := b.s1
  exact ⟨by omega, by omega, by rw [wi64 (by omega) (by omega)]; omega, b.t1, b.t4, b.r1, b.r8, b.hl, b.s0, by omega, b.hw⟩
section
abbrev YJ (p : TP) (T : Nat) (R : Int) (N cap : Nat) (o : Nat → Int × Int × Bool × Bool) (x : AS) (ρ : Nat → Nat × Nat) (w : World) (I : Act → World → Prop) : Prop :=
  ∀ x', YInv T R N x' → x'.i = x.i + 1 → ∀ cs TT H, Sub (FEnv Tryz.prog (XTl p).TE (hXTl p).te Tryz.f12 Tryz.f12.ntmps [.obj (.rows N 4 (actR o)), pinE RTV] (Is .tt [.obj (.rows N 4 (actR o)), pinE RTV]) ρ w) TT H (ypT N cap x') (ypH N o T R x') →
    SS (hXTl p) (At ρ w) (Is .tt [.obj (.rows N 4 (actR o)), pinE RTV]) ⟨cs, [], Tryz.f12, Tryz.f12.ntmps, [.obj (.rows N 4 (actR o)), pinE RTV], downLp (contF Tryz.f12 9 [I]), TT, H⟩
abbrev YG (p : TP) (T : Nat) (R : Int) (N cap : Nat) (o : Nat → Int × Int × Bool × Bool) (x : AS) (ρ : Nat → Nat × Nat) (w : World) (I : Act → World → Prop) : Prop :=
  SS (hXTl p) (At ρ w) (Is .tt [.obj (.rows N 4 (actR o)), pinE RTV]) ⟨[], [], Tryz.f12, Tryz.f12.ntmps, [.obj (.rows N 4 (actR o)), pinE RTV], contF Tryz.f12 9 [I], ypT N cap x, ypH N o T R x⟩
/-- Where a client has its turn. -/
abbrev YK (p : TP) (K : Nat) (T : Nat) (R : Int) (N cap : Nat) (o : Nat → Int × Int × Bool × Bool) (x : AS) (ρ : Nat → Nat × Nat) (w : World) (I : Act → World → Prop) : Prop :=
  SS (hXTl p) (At ρ w) (Is .tt [.obj (.rows N 4 (actR o)), pinE RTV]) ⟨[], [], Tryz.f12, Tryz.f12.ntmps, [.obj (.rows N 4 (actR o)), pinE RTV], contF Tryz.f12 19 [I], ypK K N cap x, ypH N o T R x⟩
end
def t00 : TS := newT false false 1
def r00 : TR := ⟨t00, [], 0, 0, 0, false⟩
end Go.Proofs.YtkkddjchkkaagaaGreatDoor
