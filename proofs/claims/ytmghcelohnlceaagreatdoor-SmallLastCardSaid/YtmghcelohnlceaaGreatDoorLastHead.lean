/- SmallLast: the world of a turn, and what is so. -/
import Derived.Test.YtmghcelohnlceaaGreatDoorAloneRows
import Derived.Test.YtmghcelohnlceaaGreatDoorLastLaw
import Derived.Test.YtmghcelohnlceaaGreatDoorAloneMade
import Derived.Test.YtmghcelohnlceaaGreatDoorTopTwo
namespace Go.Proofs.YtmghcelohnlceaaGreatDoor
open Go Go.Hx
set_option maxRecDepth 8000
def ctTl (p : TP) : Nat → Option Hx.Spec
  | 11 => some (whoS p.f p.o0 p.o1 p.back)
  | 12 => some (begS p.i p.f p.idle)
  | 13 => some (wStG p.q p.w)
  | 14 => some (rStH p.q p.r)
  | 15 => some (arWordsS)
  | 17 => some (top1S)
  | _ => none
theorem ctTl_ok (p : TP) : ∀ f s args H ob V L, ctTl p f = some s → s args H = some (ob, V, L) → AllP ob → Gives Tryz.prog f args H (Is V L) := by
  intro f s args H ob V L h hs ho
  unfold ctTl at h
  split at h
  · simp at h; subst h; exact whoS_ok hs ho
  · simp at h; subst h; exact begS_ok hs ho
  · simp at h; subst h; exact wStG_ok hs ho
  · simp at h; subst h; exact rStH_ok hs ho
  · simp at h; subst h; exact arWordsS_ok hs ho
  · simp at h; subst h; exact top1S_ok hs ho
  · simp at h
noncomputable def XTl (p : TP) : Tabs := tabs tr ft xt (fun _ => none) (ctTl p) 0
theorem hXTl (p : TP) : TOk Tryz.prog (XTl p) := ⟨hTE, hFT, (ctTl_ok p), hXT, fun t ks h => by simp [XTl, tabs] at h, mixed⟩
structure LS where
  (i : Nat) (z : Wd) (now : Int) (b : Bool) (m : List Int)
def llT (N cap : Nat) (x : LS) : List (Nat × SV) := [(1, .slice 0 0 N cap), (5, .tt), (6, .ptr 2 0), (7, .int .u64 x.now), (8, mnV x.b 20 x.m), (9, .int .i64 (x.i : Int))]
def lkT (K : Int) (N cap : Nat) (x : LS) : List (Nat × SV) := [(1, .slice 0 0 N cap), (5, .tt), (6, .ptr 2 0), (7, .int .u64 x.now), (8, mnV x.b 20 x.m), (9, .int .i64 (x.i : Int)), (10, .int .i64 K)]
def llH (N : Nat) (o : Nat → Int × Int) (R : Int) (x : LS) : List HE := wdH (.obj (.rows N 2 (actR o))) R x.z [mnE x.b x.m]
/-- What is so; h: a client has begun, and not had its turn. -/
structure LInv (R : Int) (N h : Nat) (x : LS) : Prop where
  b : BInv R (2 * x.i + h) x.z
  hn : x.i + h ≤ N
  hi : x.i + h ≤ 150
  m : MI x.z.W x.z.c0 x.z.c1
  j : LJ x.z.W x.z.c0 x.z.c1 x.z.d0 x.z.d1 x.z.n x.now x.m
  bf : x.b = false → x.m.length = 1
theorem LInv.facts {R : Int} {N h : Nat} {x : LS} (h' : LInv R N h x) (hin : x.i < N) (hi : x.i < 150) : (x.i : Int) < (N : Int) ∧ (x.i : Int) < 150 ∧ IntKind.i64.wrap ((x.i : Int) + 1) = ((x.i + 1 : Nat) : Int) ∧
    1 ≤ R ∧ R ≤ 8 ∧ x.z.W.length = 21 ∧ 16 ≤ x.z.W.length ∧ 0 ≤ x.z.W.getD 7 0 ∧ x.z.W.getD 7 0 < 18446744073709551616 ∧ 0 ≤ x.z.st ∧ x.z.st < 1000000 ∧ 0 ≤ x.z.n ∧ x.z.n < 1000000 - 1 := by
  have b := h'.b
  have h2 := b.s0
  have h3 := b.s1
  have h4 := b.n1
  have h5 := h'.hi
  exact ⟨by omega, by omega, by rw [wi64 (by omega) (by omega)]; omega, b.r1, b.r2, b.hl, by have := b.hl; omega, (b.hw 7).1, (b.hw 7).2, h2, by omega, b.n0, by omega⟩
theorem BInv.mono {R : Int} {i j : Nat} {z : Wd} (h : BInv R i z) (hij : i ≤ j) (hj : j ≤ 10000) : BInv R j z := by
  have h2 := h.s1
  have h3 := h.t1
  have h4 := h.n1
  exact ⟨h.r1, h.r2, hj, h.hl, h.hw, h.s0, by omega, h.t0, by omega, h.n0, by omega, h.o0, h.o1, h.o2, h.o3⟩
theorem wrap_id {n : Int} (h0 : -1000000000 ≤ n) (h1 : n ≤ 1000000000) : IntKind.i64.wrap n = n := wi64 (by omega) (by omega)
end Go.Proofs.YtmghcelohnlceaaGreatDoor

/- SmallLast: the second loop. -/
namespace Go.Proofs.YtmghcelohnlceaaGreatDoor
open Go Go.Hx
set_option maxRecDepth 8000
structure L2 where
  (j : Nat) (z : Wd) (now : Int)
def l2T (bm : Bool) (mm : List Int) (x : L2) : List (Nat × SV) := [(5, .tt), (6, .ptr 2 0), (7, .int .u64 x.now), (8, mnV bm 20 mm), (12, .int .i64 (x.j : Int))]
def l2H (bb : Bool) (N : Nat) (o : Nat → Int × Int) (R : Int) (bm : Bool) (mm : List Int) (x : L2) : List HE := wdH (scE bb N o) R x.z [mnE bm mm]
structure L2Inv (R : Int) (mm : List Int) (x : L2) : Prop where
  b : BInv R (301 + x.j) x.z
  hj : x.j ≤ 400
  m : MI x.z.W x.z.c0 x.z.c1
  j : LJ x.z.W x.z.c0 x.z.c1 x.z.d0 x.z.d1 x.z.n x.now mm
  q0 : ∀ s, x.z.c0 = some s → muW R s x.z.W + (x.j : Int) ≤ 100
  q1 : 100 ≤ x.j → ∀ s, x.z.c1 = some s → muW R s x.z.W + (x.j : Int) ≤ 200
  q2 : 200 ≤ x.j → ∀ s, x.z.c2 = some s → muR R s x.z.W + (x.j : Int) ≤ 300
  q3 : 300 ≤ x.j → ∀ s, x.z.c3 = some s → muR R s x.z.W + (x.j : Int) ≤ 400
  ff : 1 ≤ x.j → x.z.f = true
theorem L2Inv.facts {R : Int} {mm : List Int} {x : L2} {K : Nat} (h : L2Inv R mm x) (h0 : 100 * K ≤ x.j) (h1 : x.j < 100 * K + 100) (hK : K ≤ 3 := by decide) : (x.j : Int) < 400 ∧ IntKind.i64.wrap ((x.j : Int) + 1) = ((x.j + 1 : Nat) : Int) ∧ IntKind.i64.wrap ((x.j : Int).tdiv 100) = (K : Int) ∧
    1 ≤ R ∧ R ≤ 8 ∧ x.z.W.length = 21 ∧ 16 ≤ x.z.W.length ∧ 0 ≤ x.z.W.getD 7 0 ∧ x.z.W.getD 7 0 < 18446744073709551616 ∧ 0 ≤ x.z.st ∧ x.z.st < 1000000 := by
  have b := h.b
  have h2 := b.s0
  have h3 := b.s1
  have h5 := h.hj
  exact ⟨by omega, by rw [wi64 (by omega) (by omega)]; omega, by rw [Int.tdiv_eq_ediv_of_nonneg (by omega), show (x.j : Int) / 100 = (K : Int) by omega, wi64 (by omega) (by omega)], b.r1, b.r2, b.hl, by have := b.hl; omega, (b.hw 7).1, (b.hw 7).2, h2, by omega⟩
theorem BInv.mono' {R : Int} {i : Nat} {z z' : Wd} (h : BInv R i z) (e1 : z'.W = z.W) (e2 : z'.st = z.st) (e3 : z'.stb = z.stb) (e4 : z'.n = z.n) (e5 : z'.c0 = z.c0) (e6 : z'.c1 = z.c1) (e7 : z'.c2 = z.c2) (e8 : z'.c3 = z.c3) (hj : i + 1 ≤ 10000) : BInv R (i + 1) z' := by
  have h2 := h.s1
  have h3 := h.t1
  have h4 := h.n1
  exact ⟨h.r1, h.r2, hj, by rw [e1]; exact h.hl, by rw [e1]; exact h.hw, by rw [e2]; exact h.s0, by rw [e2]; omega, by rw [e3]; exact h.t0, by rw [e3]; omega, by rw [e4]; exact h.n0, by rw [e4]; omega, by rw [e5]; exact h.o0, by rw [e6]; exact h.o1, by rw [e7]; exact h.o2, by rw [e8]; exact h.o3⟩
theorem L2Inv.s0 {R : Int} {mm : List Int} {x : L2} (h : L2Inv R mm x) (h1 : x.j < 100) (z' : Wd) (now' : Int) (b : BInv R (301 + x.j + 1) z') (m : MI z'.W z'.c0 z'.c1) (lj : LJ z'.W z'.c0 z'.c1 z'.d0 z'.d1 z'.n now' mm) (q : ∀ s, z'.c0 = some s → muW R s z'.W + ((x.j : Int) + 1) ≤ 100) (hf : z'.f = true) : L2Inv R mm ⟨x.j + 1, z', now'⟩ :=
  ⟨b, by show x.j + 1 ≤ 400; omega, m, lj, fun s hs => by have := q s hs; dsimp only; omega, fun g s hs => by have := mu_max (W := z'.W) (show WOk R s by have q := b.o1; dsimp only at hs; rw [hs] at q; exact q); have := h.b.r2; dsimp only at g ⊢; omega, fun g s hs => by have := mr_max (W := z'.W) (show ROk R s by have q := b.o2; dsimp only at hs; rw [hs] at q; exact q); have := h.b.r2; dsimp only at g ⊢; omega, fun g s hs => by have := mr_max (W := z'.W) (show ROk R s by have q := b.o3; dsimp only at hs; rw [hs] at q; exact q); have := h.b.r2; dsimp only at g ⊢; omega, fun _ => hf⟩
theorem L2Inv.s1 {R : Int} {mm : List Int} {x : L2} (h : L2Inv R mm x) (h0 : 100 ≤ x.j) (h1 : x.j < 200) (z' : Wd) (now' : Int) (b : BInv R (301 + x.j + 1) z') (m : MI z'.W z'.c0 z'.c1) (lj : LJ z'.W z'.c0 z'.c1 z'.d0 z'.d1 z'.n now' mm) (e0 : z'.c0 = x.z.c0) (q : ∀ s, z'.c1 = some s → muW R s z'.W + ((x.j : Int) + 1) ≤ 200) (hf : z'.f = true) : L2Inv R mm ⟨x.j + 1, z', now'⟩ :=
  ⟨b, by show x.j + 1 ≤ 400; omega, m, lj, fun s hs => by rw [e0] at hs; have := h.q0 s hs; have := mu_pos (W := x.z.W) (show WOk R s by have q := h.b.o0; rw [hs] at q; exact q); omega, fun _ s hs => by have := q s hs; dsimp only; omega, fun g s hs => by have := mr_max (W := z'.W) (show ROk R s by have q := b.o2; dsimp only at hs; rw [hs] at q; exact q); have := h.b.r2; dsimp only at g ⊢; omega, fun g s hs => by have := mr_max (W := z'.W) (show ROk R s by have q := b.o3; dsimp only at hs; rw [hs] at q; exact q); have := h.b.r2; dsimp only at g ⊢; omega, fun _ => hf⟩
theorem L2Inv.s2 {R : Int} {mm : List Int} {x : L2} (h : L2Inv R mm x) (h0 : 200 ≤ x.j) (h1 : x.j < 300) (z' : Wd) (now' : Int) (b : BInv R (301 + x.j + 1) z') (m : MI z'.W z'.c0 z'.c1) (lj : LJ z'.W z'.c0 z'.c1 z'.d0 z'.d1 z'.n now' mm) (e0 : z'.c0 = x.z.c0) (e1 : z'.c1 = x.z.c1) (q : ∀ s, z'.c2 = some s → muR R s z'.W + ((x.j : Int) + 1) ≤ 300) (hf : z'.f = true) : L2Inv R mm ⟨x.j + 1, z', now'⟩ :=
  ⟨b, by show x.j + 1 ≤ 400; omega, m, lj, fun s hs => by rw [e0] at hs; have := h.q0 s hs; have := mu_pos (W := x.z.W) (show WOk R s by have q := h.b.o0; rw [hs] at q; exact q); omega, fun _ s hs => by rw [e1] at hs; have := h.q1 (by omega) s hs; have := mu_pos (W := x.z.W) (show WOk R s by have q := h.b.o1; rw [hs] at q; exact q); omega, fun _ s hs => by have := q s hs; dsimp only; omega, fun g s hs => by have := mr_max (W := z'.W) (show ROk R s by have q := b.o3; dsimp only at hs; rw [hs] at q; exact q); have := h.b.r2; dsimp only at g ⊢; omega, fun _ => hf⟩
theorem L2Inv.s3 {R : Int} {mm : List Int} {x : L2} (h : L2Inv R mm x) (h0 : 300 ≤ x.j) (h1 : x.j < 400) (z' : Wd) (now' : Int) (b : BInv R (301 + x.j + 1) z') (m : MI z'.W z'.c0 z'.c1) (lj : LJ z'.W z'.c0 z'.c1 z'.d0 z'.d1 z'.n now' mm) (e0 : z'.c0 = x.z.c0) (e1 : z'.c1 = x.z.c1) (e2 : z'.c2 = x.z.c2) (q : ∀ s, z'.c3 = some s → muR R s z'.W + ((x.j : Int) + 1) ≤ 400) (hf : z'.f = true) : L2Inv R mm ⟨x.j + 1, z', now'⟩ :=
  ⟨b, by show x.j + 1 ≤ 400; omega, m, lj, fun s hs => by rw [e0] at hs; have := h.q0 s hs; have := mu_pos (W := x.z.W) (show WOk R s by have q := h.b.o0; rw [hs] at q; exact q); omega, fun _ s hs => by rw [e1] at hs; have := h.q1 (by omega) s hs; have := mu_pos (W := x.z.W) (show WOk R s by have q := h.b.o1; rw [hs] at q; exact q); omega, fun _ s hs => by rw [e2] at hs; have := h.q2 (by omega) s hs; have := mr_pos (W := x.z.W) (show ROk R s by have q := h.b.o2; rw [hs] at q; exact q); omega, fun _ s hs => by have := q s hs; dsimp only; omega, fun _ => hf⟩
theorem L2Inv.done {R : Int} {mm : List Int} {x : L2} (h : L2Inv R mm x) (hj : x.j = 400) : x.z.c0 = none ∧ x.z.c1 = none ∧ x.z.c2 = none ∧ x.z.c3 = none := by
  refine ⟨?_, ?_, ?_, ?_⟩
  · rcases e : x.z.c0 with _ | s
    · rfl
    · exfalso
      have := h.q0 s e
      have := mu_pos (W := x.z.W) (show WOk R s by have q := h.b.o0; rw [e] at q; exact q)
      omega
  · rcases e : x.z.c1 with _ | s
    · rfl
    · exfalso
      have := h.q1 (by omega) s e
      have := mu_pos (W := x.z.W) (show WOk R s by have q := h.b.o1; rw [e] at q; exact q)
      omega
  · rcases e : x.z.c2 with _ | s
    · rfl
    · exfalso
      have := h.q2 (by omega) s e
      have := mr_pos (W := x.z.W) (show ROk R s by have q := h.b.o2; rw [e] at q; exact q)
      omega
  · rcases e : x.z.c3 with _ | s
    · rfl
    · exfalso
      have := h.q3 (by omega) s e
      have := mr_pos (W := x.z.W) (show ROk R s by have q := h.b.o3; rw [e] at q; exact q)
      omega
end Go.Proofs.YtmghcelohnlceaaGreatDoor
