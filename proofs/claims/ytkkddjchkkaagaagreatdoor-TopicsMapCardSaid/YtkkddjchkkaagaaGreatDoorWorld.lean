/- A control word that is Busy from now on, or not any more; the world of these laws, over a heap. -/
import Derived.Test.YtkkddjchkkaagaaGreatDoorStepLaw
namespace Go.Proofs.YtkkddjchkkaagaaGreatDoor
open Go Go.Hx
set_option maxRecDepth 8000
abbrev wdE (l : List Int) : HE := .obj (.buf .u64 l 1 52)
section
variable {T : Nat} {R a b : Int} {x y : Bool} {W : List Int}
end
def WR (W : List Int) : Prop := ∀ j, 0 ≤ W.getD j 0 ∧ W.getD j 0 < 18446744073709551616
/-! The world of these laws. -/
def crP (o : Option TS) (h : Nat) : SV := match o with | none => .nilptr | some s => bif s.rm then .nilptr else .ptr h 0
def rmP (o : Option TS) (h : Nat) : SV := match o with | none => .nilptr | some s => bif s.rm then .ptr h 0 else .nilptr
def hdE (T R : Int) (o : Option TS) (hr hh : Nat) : HE := match o with | none => .absent | some s => .obj (hoC T R hr hh s)
def ruE (o : Option TS) (hh : Nat) : HE := match o with | none => .absent | some s => .obj (ruC hh s)
def clE (o : Option TS) (h : Nat) (p : Value) (k : Int) : HE := .obj (clO (crP o h) (rmP o h) p k)
abbrev cfE (T R : Int) : HE := .obj (.cells [.int .i64 T, .int .i64 4, .int .i64 1, .int .i64 4, .int .i64 4, .int .i64 1, .int .i64 6, .int .i64 0, .int .i64 R] 43)
abbrev arE (a b c : Nat) : HE := .obj (.cells [.ptr a 0, .ptr b 0, .ptr c 0] 91)
structure Tq where
  (W : List Int) (st kd wd vl : Int) (ch : Bool) (c0 c1 c2 : Option TS) (p0 p1 p2 : Value) (k0 k1 k2 : Int)
def tqH (e : HE) (T R : Int) (z : Tq) (x : List HE) : List HE :=
  e :: pinE RTV :: cfE T R :: AOx 4 z.W z.st z.kd z.wd z.vl z.ch :: WO z.W :: arE 6 7 8 :: clE z.c0 10 z.p0 z.k0 :: clE z.c1 12 z.p1 z.k1 :: clE z.c2 14 z.p2 z.k2 ::
    hdE T R z.c0 10 9 :: ruE z.c0 9 :: hdE T R z.c1 12 11 :: ruE z.c1 11 :: hdE T R z.c2 14 13 :: ruE z.c2 13 :: x
section
variable {σ : Nat → Nat} {H H' : List HE} {h h' g g' i : Nat} {T R : Int} {o : Option TS} {p : Value} {k : Int}
theorem ren_crP : (crP o h).ren σ = crP o (σ h) := by
  rcases o with _ | s
  · rfl
  · unfold crP; dsimp only; cases s.rm <;> rfl
theorem ren_rmP : (rmP o h).ren σ = rmP o (σ h) := by
  rcases o with _ | s
  · rfl
  · unfold rmP; dsimp only; cases s.rm <;> rfl
theorem sim_crP (hs : σ h = h') : sim (crP o h') ((crP o h).ren σ) := by subst hs; rw [ren_crP]; exact sim_refl _
theorem sim_rmP (hs : σ h = h') : sim (rmP o h') ((rmP o h).ren σ) := by subst hs; rw [ren_rmP]; exact sim_refl _
theorem okP_crP (e : thereF H' h = (ruE o i).there) : okP (thereF H') (crP o h) := by
  rcases o with _ | s
  · trivial
  · unfold crP
    dsimp only
    cases s.rm
    · simpa [okP, ruE, HE.there] using e
    · trivial
theorem okP_rmP (e : thereF H' h = (ruE o i).there) : okP (thereF H') (rmP o h) := by
  rcases o with _ | s
  · trivial
  · unfold rmP
    dsimp only
    cases s.rm
    · trivial
    · simpa [okP, ruE, HE.there] using e
theorem subE_hdE (hg : H[σ i]? = some (hdE T R o h' g')) (hs : σ h = h') (hs2 : σ g = g') : subE σ H i (hdE T R o h g) := by
  subst hs; subst hs2
  cases o with
  | none => trivial
  | some s =>
    simp only [hdE] at hg
    simp only [hdE, subE, getH_some.2 hg, simG, ren_hoC]
    exact simO_refl _
theorem subE_ruE (hg : H[σ i]? = some (ruE o h')) (hs : σ h = h') : subE σ H i (ruE o h) := by
  subst hs
  cases o with
  | none => trivial
  | some s =>
    simp only [ruE] at hg
    simp only [ruE, subE, getH_some.2 hg, simG, ren_ruC]
    exact simO_refl _
theorem okP_nxV {A : Nat → Bool} {rm : Bool} {ph a b : Nat} (ha : A a = true) (hb : A b = true) : okP A (nxV rm ph a b) := by
  unfold nxV
  split <;> first | exact trivial | exact ⟨⟨hb, trivial⟩, trivial⟩ | (cases rm <;> exact ⟨⟨ha, trivial⟩, trivial⟩)
theorem okP_hlV {A : Nat → Bool} {rm : Bool} {a : Nat} (ha : A a = true) : okP A (hlV rm a) := by cases rm <;> exact ⟨⟨ha, trivial⟩, trivial⟩
theorem okE_hdE {A : Nat → Bool} (e : A h = (ruE o i).there) (e2 : A g = (hdE T R o h g).there) : okE A (hdE T R o h g) := by
  cases o with
  | none => trivial
  | some s => show okPs A _; repeat' (first | exact okP_nxV e e2 | exact okP_hlV e | exact okP_erV | exact trivial | refine And.intro ?_ ?_)
theorem okE_ruE {A : Nat → Bool} (e : A g = (hdE T R o h g).there) : okE A (ruE o g) := by
  cases o with
  | none => trivial
  | some s =>
    unfold ruE ruC
    dsimp only
    cases s.rm <;> exact ⟨e, by repeat' (first | exact trivial | refine And.intro ?_ ?_)⟩
end
end Go.Proofs.YtkkddjchkkaagaaGreatDoor
