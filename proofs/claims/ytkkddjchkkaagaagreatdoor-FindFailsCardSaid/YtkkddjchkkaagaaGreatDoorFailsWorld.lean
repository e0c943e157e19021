/- FindFails: the world of a turn, and what is so. -/
import Derived.Test.YtkkddjchkkaagaaGreatDoorFailsLaw
import Derived.Test.YtkkddjchkkaagaaGreatDoorArenaSteps
namespace Go.Proofs.YtkkddjchkkaagaaGreatDoor
open Go Go.Hx
set_option maxRecDepth 8000
structure FP where
  (T : Nat) (R : Int) (sf : Nat) (f : FS) (fr : FR) (mv : Bool) (l : LS) (lr : LR) (k lg : Nat)
def ctFf (p : FP) : Nat → Option Hx.Spec
  | 16 => some (fStS p.T p.R p.sf p.f p.fr)
  | 20 => some (lStS p.mv 7 p.T p.R p.l p.lr)
  | 13 => some (ftldS p.k p.T p.R p.fr.s)
  | 14 => some (ltldS p.k p.lg p.T p.R p.lr.s)
  | 18 => some (topFS)
  | 143 => some (pureS rightS)
  | 84 => some (pureS startS)
  | 29 => some (pureS (placeS entryF))
  | 30 => some (pureS entS)
  | 32 => some (arLoadS)
  | 28 => some (arStoreS)
  | _ => none
theorem ctFf_ok (p : FP) : ∀ f s args H ob V L, ctFf p f = some s → s args H = some (ob, V, L) → AllP ob → Gives Tryz.prog f args H (Is V L) := by
  intro f s args H ob V L h hs ho
  unfold ctFf at h
  split at h
  · simp at h; subst h; exact fStS_ok hs ho
  · simp at h; subst h; exact lStS_ok hs ho
  · simp at h; subst h; exact ftldS_ok hs ho
  · simp at h; subst h; exact ltldS_ok hs ho
  · simp at h; subst h; exact topFS_ok hs ho
  · simp at h; subst h; exact pureS_ok ⟨_, hTE⟩ (rightS_ok right143) hs ho
  · simp at h; subst h; exact pureS_ok ⟨_, hTE⟩ (startS_ok) hs ho
  · simp at h; subst h; exact pureS_ok ⟨_, hTE⟩ (placeS_ok (v := entryF) entry_fn) hs ho
  · simp at h; subst h; exact pureS_ok ⟨_, hTE⟩ (entS_ok) hs ho
  · simp at h; subst h; exact arLoadS_ok hs ho
  · simp at h; subst h; exact arStoreS_ok hs ho
  · simp at h
noncomputable def XFf (p : FP) : Tabs := tabs tr ft xt (fun _ => none) (ctFf p) 0
theorem hXFf (p : FP) : TOk Tryz.prog (XFf p) := ⟨hTE, hFT, (ctFf_ok p), hXT, fun t ks h => by simp [XFf, tabs] at h, mixed⟩
structure Fq where
  (W : List Int) (st kd wd vl : Int) (ch : Bool) (f : FS) (l : LS) (n0 n1 : Int)
abbrev cf9E (T R : Int) : HE := .obj (.cells [.int .i64 T, .int .i64 4, .int .i64 1, .int .i64 2, .int .i64 4, .int .i64 1, .int .i64 6, .int .i64 0, .int .i64 R] 43)
def ffH (e : HE) (T R : Int) (z : Fq) (x : List HE) : List HE :=
  e :: pinE RTV :: cf9E T R :: AOx 4 z.W z.st z.kd z.wd z.vl z.ch :: WO z.W :: .obj (fnC T R 5 z.f) :: .obj (lsC T R 6 7 z.l) :: slE z.l.told .i64 3 :: .obj (.ints .i64 [z.n0, z.n1] 45) :: x
section
variable {σ : Nat → Nat} {H H' : List HE} {h g i : Nat} {T R : Int} {s : FS} {l : LS}
theorem subE_fnC (hg : H[σ i]? = some (.obj (fnC T R h s))) (hs : σ i = h) : subE σ H i (.obj (fnC T R i s)) := by
  subst hs
  simp only [subE, getH_some.2 hg, simG, ren_fnC]
  exact simO_refl _
theorem subE_lsC {a b a' b' : Nat} (hg : H[σ i]? = some (.obj (lsC T R a' b' l))) (hs : σ a = a' ∧ σ b = b') : subE σ H i (.obj (lsC T R a b l)) := by
  obtain ⟨rfl, rfl⟩ := hs
  simp only [subE, getH_some.2 hg, simG, ren_lsC]
  exact simO_refl _
theorem subE_lsC0 {a b a' b' : Nat} (ht : l.told = none) (hg : H[σ i]? = some (.obj (lsC T R a' b' l))) (hs : σ a = a') : subE σ H i (.obj (lsC T R a b l)) := by
  obtain rfl := hs
  simp only [subE, getH_some.2 hg, simG, ren_lsC]
  have e : lsC T R (σ a) b' l = lsC T R (σ a) (σ b) l := by unfold lsC; rw [ht]; rfl
  rw [e]
  exact simO_refl _
theorem okP_fnx {A : Nat → Bool} {ph a : Nat} (h : A a = true) : okP A (fnx ph a) := by unfold fnx; split <;> first | exact trivial | exact ⟨⟨h, trivial⟩, trivial⟩
theorem okP_lnx {A : Nat → Bool} {ph a : Nat} (h : A a = true) : okP A (lnx ph a) := by unfold lnx; split <;> first | exact trivial | exact ⟨⟨h, trivial⟩, trivial⟩
theorem okE_fnC {A : Nat → Bool} {a : Nat} (h : A a = true) : okE A (.obj (fnC T R a s)) := by
  show okPs A _
  repeat' (first | exact okP_fnx h | exact okP_erV | exact ⟨⟨h, trivial⟩, trivial⟩ | exact trivial | refine And.intro ?_ ?_)
theorem okP_slF {A : Nat → Bool} {o : Option (List Int)} {b : Nat} {k : IntKind} {ty : TypeId} (e : A b = (slE o k ty).there) : okP A (slV o b) := by
  cases o with
  | none => trivial
  | some l => simpa [slV, okP, slE, HE.there] using e
theorem okE_lsC {A : Nat → Bool} {a b : Nat} (h : A a = true) (h2 : A b = (slE l.told .i64 3).there) : okE A (.obj (lsC T R a b l)) := by
  show okPs A _
  repeat' (first | exact okP_lnx h | exact okP_erV | exact okP_slF h2 | exact ⟨⟨h, trivial⟩, trivial⟩ | exact trivial | refine And.intro ?_ ?_)
end
theorem clhG {P : Prop} (h : P := by repeat' (first | exact rfl | exact trivial | exact sim_refl _ | exact simO_refl _ | exact sim_slVr rfl | exact subE_same rfl ren_slE | exact subE_fnC rfl rfl | exact subE_lsC rfl ⟨rfl, rfl⟩ | exact subE_lsC0 rfl rfl rfl | assumption | refine And.intro ?_ ?_)) : P := h
theorem clkG {P : Prop} (h : P := by repeat' (first | exact rfl | exact trivial | exact okE_slE | exact okP_slV rfl | exact okE_fnC (a := 5) rfl | exact okE_lsC (a := 6) (b := 7) rfl rfl | refine And.intro ?_ ?_)) : P := h
structure XS where
  (i : Nat) (z : Fq) (sq : Int)
def ffT (N cap : Nat) (key : Int) (x : XS) : List (Nat × SV) := [(1, .slice 0 0 N cap), (2, .int .i64 key), (7, .tt), (8, .ptr 2 0), (9, .ptr 3 0), (11, .ptr 5 0), (12, .ptr 6 0), (13, .int .u64 x.sq), (14, .ptr 8 0), (15, .int .i64 (x.i : Int))]
/-- Behind the counting. -/
def ffU (N cap : Nat) (key : Int) (a : Nat) (x : XS) : List (Nat × SV) := [(1, .slice 0 0 N cap), (2, .int .i64 key), (7, .tt), (8, .ptr 2 0), (9, .ptr 3 0), (11, .ptr 5 0), (12, .ptr 6 0), (13, .int .u64 x.sq), (14, .ptr 8 0), (15, .int .i64 (x.i : Int)), (16, .ptr 9 0), (17, .int .i64 (a : Int))]
def fK (N : Nat) (o : Nat → Int × Int × Int × Bool) (T : Nat) (R : Int) (x : XS) : List HE := ffH (.obj (.rows N 4 (acF o))) T R x.z []
def acO (a : Int × Int × Int × Bool) : HE := .obj (.cells [.int .i64 a.1, .int .i64 a.2.1, .int .i64 a.2.2.1, .bool a.2.2.2] 54)
def fKa (N : Nat) (o : Nat → Int × Int × Int × Bool) (T : Nat) (R : Int) (x : XS) : List HE := ffH (.obj (.rows N 4 (acF o))) T R x.z [acO (o x.i)]
/-- What is so; up: the number was counted in this turn. -/
structure FInv (T : Nat) (R : Int) (N : Nat) (key : Int) (up : Int) (x : XS) : Prop where
  b : FB T R x.z.W x.z.st
  s2 : x.z.st ≤ 1000 + (x.i : Int)
  fc : FC T R x.z.f
  lc : LC T R x.z.l
  fk : x.z.f.key = key
  sq : x.z.W.getD 2 0 = x.sq
  s0 : 0 ≤ x.sq
  s1 : x.sq ≤ (x.i : Int)
  fa : FAi x.sq x.z.n0 x.z.f
  la : LAi T x.sq x.z.n1 x.z.l
  fo : up = 1 → x.sq % 2 = 1 → x.z.f.fd + 1 ≤ x.z.n0
  lo : up = 1 → x.sq % 2 = 1 → x.z.l.fd + 1 ≤ x.z.n1
  m0 : 0 ≤ x.z.n0
  m1 : 0 ≤ x.z.n1
  m2 : x.z.n0 ≤ 2 * (x.i : Int) + up
  m3 : x.z.n1 ≤ 2 * (x.i : Int) + up
  hn : x.i ≤ N
  hi : x.i ≤ 100
def downLp : List KI → List KI
  | [] => []
  | .lp I :: k => .lp I :: k
  | _ :: r => downLp r
section
abbrev FJ (p : FP) (T : Nat) (R : Int) (N cap : Nat) (key : Int) (o : Nat → Int × Int × Int × Bool) (x : XS) (ρ : Nat → Nat × Nat) (w : World) (I : Act → World → Prop) : Prop :=
  ∀ x', FInv T R N (cRem 1 12 key) 0 x' → x'.i = x.i + 1 → ∀ cs TT H, Sub (FEnv Tryz.prog (XFf p).TE (hXFf p).te Tryz.f4 Tryz.f4.ntmps [.obj (.rows N 4 (acF o)), pinE RTV] (Is .tt [.obj (.rows N 4 (acF o)), pinE RTV]) ρ w) TT H (ffT N cap key x') (fK N o T R x') →
    SS (hXFf p) (At ρ w) (Is .tt [.obj (.rows N 4 (acF o)), pinE RTV]) ⟨cs, [], Tryz.f4, Tryz.f4.ntmps, [.obj (.rows N 4 (acF o)), pinE RTV], downLp (contF Tryz.f4 11 [I]), TT, H⟩
abbrev FG (p : FP) (T : Nat) (R : Int) (N cap : Nat) (key : Int) (o : Nat → Int × Int × Int × Bool) (x : XS) (ρ : Nat → Nat × Nat) (w : World) (I : Act → World → Prop) : Prop :=
  SS (hXFf p) (At ρ w) (Is .tt [.obj (.rows N 4 (acF o)), pinE RTV]) ⟨[], [], Tryz.f4, Tryz.f4.ntmps, [.obj (.rows N 4 (acF o)), pinE RTV], contF Tryz.f4 11 [I], ffT N cap key x, fK N o T R x⟩
/-- Behind the counting; reg: where. -/
abbrev FU (reg : Nat) (a : Nat) (p : FP) (T : Nat) (R : Int) (N cap : Nat) (key : Int) (o : Nat → Int × Int × Int × Bool) (x : XS) (ρ : Nat → Nat × Nat) (w : World) (I : Act → World → Prop) : Prop :=
  SS (hXFf p) (At ρ w) (Is .tt [.obj (.rows N 4 (acF o)), pinE RTV]) ⟨[], [], Tryz.f4, Tryz.f4.ntmps, [.obj (.rows N 4 (acF o)), pinE RTV], contF Tryz.f4 reg [I], ffU N cap key a x, fKa N o T R x⟩
end
def f00 : FS := ⟨1, 1, 0, 0, 0, 0, 0, false, 0, 0⟩
def l00 : LS := ⟨1, 0, 0, 0, none, 0, 0⟩
def p00 (T : Nat) (R : Int) : FP := ⟨T, R, 0, f00, ⟨f00, 0, 0⟩, false, l00, ⟨l00, 0, 0⟩, 0, 7⟩
end Go.Proofs.YtkkddjchkkaagaaGreatDoor
