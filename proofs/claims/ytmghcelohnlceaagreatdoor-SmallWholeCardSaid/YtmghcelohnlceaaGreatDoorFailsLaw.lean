/- SmallFails: the world of a turn, and the plain law. -/
import Derived.Test.YtmghcelohnlceaaGreatDoorStepRows
namespace Go.Proofs.YtmghcelohnlceaaGreatDoor
open Go Go.Hx
set_option maxRecDepth 8000
def begS (i : Nat) (f idle : Bool) : Hx.Spec := match i with
  | 0 => beg0S f idle
  | 1 => beg1S f idle
  | 2 => beg2S f idle
  | _ => beg3S f idle
theorem begS_ok {i : Nat} {f idle : Bool} {args : List SV} {H : List HE} {ob : List Prop} {V : SV} {L : List HE} (hs : begS i f idle args H = some (ob, V, L)) (ho : AllP ob) : Gives Tryz.prog 12 args H (Is V L) := by
  unfold begS at hs
  split at hs
  · exact beg0S_ok hs ho
  · exact beg1S_ok hs ho
  · exact beg2S_ok hs ho
  · exact beg3S_ok hs ho
/-- Which outcomes there are in a turn. -/
structure TP where
  (f : Bool) (o0 o1 : Option WS) (back : Bool) (i : Nat) (idle : Bool) (q : Nat) (w : WR) (r : RR)
def ctTu (p : TP) : Nat → Option Hx.Spec
  | 11 => some (whoS p.f p.o0 p.o1 p.back)
  | 12 => some (begS p.i p.f p.idle)
  | 13 => some (wStG p.q p.w)
  | 14 => some (rStG p.q p.r)
  | 22 => some (pureS ctlKS)
  | 15 => some (arWordsS)
  | 21 => some (arLastS)
  | 24 => some (arStepsS)
  | 17 => some (topS)
  | _ => none
theorem ctTu_ok (p : TP) : ∀ f s args H ob V L, ctTu p f = some s → s args H = some (ob, V, L) → AllP ob → Gives Tryz.prog f args H (Is V L) := by
  intro f s args H ob V L h hs ho
  unfold ctTu at h
  split at h
  · simp at h; subst h; exact whoS_ok hs ho
  · simp at h; subst h; exact begS_ok hs ho
  · simp at h; subst h; exact wStG_ok hs ho
  · simp at h; subst h; exact rStG_ok hs ho
  · simp at h; subst h; exact pureS_ok ⟨_, hTE⟩ (ctlKS_ok) hs ho
  · simp at h; subst h; exact arWordsS_ok hs ho
  · simp at h; subst h; exact arLastS_ok hs ho
  · simp at h; subst h; exact arStepsS_ok hs ho
  · simp at h; subst h; exact topS_ok hs ho
  · simp at h
noncomputable def XTu (p : TP) : Tabs := tabs tr ft xt (fun _ => none) (ctTu p) 0
theorem hXTu (p : TP) : TOk Tryz.prog (XTu p) := ⟨hTE, hFT, (ctTu_ok p), hXT, fun t ks h => by simp [XTu, tabs] at h, mixed⟩
/-- What follows a round. -/
def downLp : List KI → List KI
  | [] => []
  | .lp I :: k => .lp I :: k
  | _ :: r => downLp r
def actR (o : Nat → Int × Int) (j : Nat) : List SV := [.int .i64 (o j).1, .int .i64 (o j).2]
theorem still_self {w : Int} (h : liW w = true) : stillB w w = true := by simp [stillB, h]
structure FS where
  (i : Nat) (z : Wd) (ch f0 f1 f2 f3 : Int)
def fsT (n cap : Nat) (x : FS) : List (Nat × SV) := [(1, .slice 0 0 n cap), (5, .tt), (6, .ptr 2 0), (7, .int .i64 x.ch), (8, .ptr 20 0), (9, .int .i64 (x.i : Int))]
def fsH (n : Nat) (o : Nat → Int × Int) (R : Int) (x : FS) : List HE := wdH (.obj (.rows n 2 (actR o))) R x.z [.obj (.ints .i64 [x.f0, x.f1, x.f2, x.f3] 61)]
structure FInv (R : Int) (n : Nat) (x : FS) : Prop where
  b : BInv R x.i x.z
  hn : x.i ≤ n
  hi : x.i ≤ 150
  c0 : 0 ≤ x.ch
  c1 : x.ch ≤ (x.i : Int)
  g0 : x.f0 ≤ x.ch
  g1 : x.f1 ≤ x.ch
  g2 : x.f2 ≤ x.ch
  g3 : x.f3 ≤ x.ch
  l2 : x.f2 = x.ch → ∀ s, x.z.c2 = some s → s.nx ≠ 1 → x.z.W.getD 7 0 = s.sn
  l3 : x.f3 = x.ch → ∀ s, x.z.c3 = some s → s.nx ≠ 1 → x.z.W.getD 7 0 = s.sn
theorem FInv.next {R : Int} {n : Nat} {x : FS} (h : FInv R n x) {z' : Wd} {ch' f0' f1' f2' f3' : Int} (b : BInv R (x.i + 1) z') (hn : x.i + 1 ≤ n) (hi : x.i + 1 ≤ 150) (c : ch' = x.ch ∨ ch' = x.ch + 1)
    (g0 : f0' = x.f0 ∨ f0' = x.ch) (g1 : f1' = x.f1 ∨ f1' = x.ch) (g2 : f2' = x.f2 ∨ f2' = x.ch) (g3 : f3' = x.f3 ∨ f3' = x.ch)
    (l2 : ch' = x.ch → f2' = x.ch → ∀ s, z'.c2 = some s → s.nx ≠ 1 → z'.W.getD 7 0 = s.sn) (l3 : ch' = x.ch → f3' = x.ch → ∀ s, z'.c3 = some s → s.nx ≠ 1 → z'.W.getD 7 0 = s.sn) : FInv R n ⟨x.i + 1, z', ch', f0', f1', f2', f3'⟩ := by
  have h0 := h.c0
  have h1 := h.c1
  have h2 := h.g0
  have h3 := h.g1
  have h4 := h.g2
  have h5 := h.g3
  refine ⟨b, hn, hi, ?_, ?_, ?_, ?_, ?_, ?_, fun q => ?_, fun q => ?_⟩
  · show 0 ≤ ch'; omega
  · show ch' ≤ ((x.i + 1 : Nat) : Int); omega
  · show f0' ≤ ch'; omega
  · show f1' ≤ ch'; omega
  · show f2' ≤ ch'; omega
  · show f3' ≤ ch'; omega
  · have q : f2' = ch' := q
    exact l2 (by omega) (by omega)
  · have q : f3' = ch' := q
    exact l3 (by omega) (by omega)
/-- What is used of it in a turn. -/
theorem FInv.facts {R : Int} {N : Nat} {x : FS} (h : FInv R N x) (hin : x.i < N) (hi : x.i < 150) : (x.i : Int) < (N : Int) ∧ (x.i : Int) < 150 ∧ IntKind.i64.wrap ((x.i : Int) + 1) = ((x.i + 1 : Nat) : Int) ∧ IntKind.i64.wrap (x.ch + 1) = x.ch + 1 ∧
    1 ≤ R ∧ R ≤ 8 ∧ x.z.W.length = 21 ∧ 16 ≤ x.z.W.length ∧ 0 ≤ x.z.W.getD 7 0 ∧ x.z.W.getD 7 0 < 18446744073709551616 ∧ 0 ≤ x.z.st ∧ x.z.st < 1000000 ∧ 0 ≤ x.z.n ∧ x.z.n < 1000000 - 1 := by
  have b := h.b
  have h0 := h.c0
  have h1 := h.c1
  have h2 := b.s0
  have h3 := b.s1
  have h4 := b.n1
  exact ⟨by omega, by omega, by rw [wi64 (by omega) (by omega)]; omega, wi64 (by omega) (by omega), b.r1, b.r2, b.hl, by have := b.hl; omega, (b.hw 7).1, (b.hw 7).2, h2, by omega, b.n0, by omega⟩
theorem BInv.nx {R : Int} {i : Nat} {z z' : Wd} (h : BInv R i z) (hl : z'.W.length = 21) (hw : ∀ j, 0 ≤ z'.W.getD j 0 ∧ z'.W.getD j 0 < 18446744073709551616) (o0 : okO (WOk R) z'.c0) (o1 : okO (WOk R) z'.c1) (o2 : okO (ROk R) z'.c2) (o3 : okO (ROk R) z'.c3)
    (hi : i + 1 ≤ 10000 := by (dsimp only; omega)) (s0 : z.st ≤ z'.st := by (dsimp only; omega)) (s1 : z'.st ≤ z.st + 2 := by (dsimp only; omega)) (t0 : z.stb ≤ z'.stb := by (dsimp only; omega)) (t1 : z'.stb ≤ z.stb + 2 := by (dsimp only; omega)) (n0 : z.n ≤ z'.n := by (dsimp only; omega)) (n1 : z'.n ≤ z.n + 1 := by (dsimp only; omega)) : BInv R (i + 1) z' :=
  h.next hi hl hw s0 s1 t0 t1 n0 n1 o0 o1 o2 o3
def w00 : WR := ⟨0, 0, 0, 0, 0, 0, false, [], 0, 0, 0, false, 0, 0⟩
def r00 : RR := ⟨0, 0, 0, 0, none, 0, 0, 0, 0⟩
theorem w_nx1 {R : Int} {s : WS} {W : List Int} {st : Int} (h : s.nx = 1) : (wStep R s W st).wd = 7 ∧ (wStep R s W st).ch = false ∧ (wStep R s W st).k ≤ 1 := by
  unfold wStep
  rw [if_pos h]
  split
  · exact ⟨rfl, rfl, by show (1 : Nat) ≤ 1; decide⟩
  · split
    · exact ⟨rfl, rfl, by show (1 : Nat) ≤ 1; decide⟩
    · split
      · split
        · exact ⟨rfl, rfl, by show (1 : Nat) ≤ 1; decide⟩
        · exact ⟨rfl, rfl, by show (0 : Nat) ≤ 1; decide⟩
      · exact ⟨rfl, rfl, by show (0 : Nat) ≤ 1; decide⟩
theorem get_none {α : Type} {P : α → Prop} {s : α} (h : (none : Option α) = some s) : P s := by cases h
theorem set_7 {W : List Int} {k : Nat} {v : Int} (hk : k ≠ 7) : (W.set k v).getD 7 0 = W.getD 7 0 := by
  rw [set_getD, if_neg (fun q => hk q.1)]
end Go.Proofs.YtmghcelohnlceaaGreatDoor
