/- SmallFails: the world of a turn, and the plain law. -/
import Derived.Test.YtmghcelohnlceaaGreatDoorStepRows
namespace Go.Proofs.YtmghcelohnlceaaGreatDoor
open Go Go.Hx
set_option maxRecDepth 8000
def begS (i : Nat) (f idle : Bool) : Hx.Spec := match i with
  | 0 => beg0S f idle
  | 1 => beg1S f idle
  | 2 => beg2S f idle
  | _ => beg3S f idle
theorem begS_ok {i : Nat} {f idle : Bool} {args : List SV} {H : List HE} {ob : List Prop} {V : SV} {L : List HE} (hs : begS i f idle args H = some (ob, V, L)) (ho : AllP ob) : Gives Tryz.prog 12 args H (Is V L) := by
  unfold begS at hs
  split at hs
  · exact beg0S_ok hs ho
  · exact beg1S_ok hs ho
  · exact beg2S_ok hs ho
  · exact beg3S_ok hs ho
/-- What follows a round. -/
def downLp : List KI → List KI
  | [] => []
  | .lp I :: k => .lp I :: k
  | _ :: r => downLp r
def actR (o : Nat → Int × Int) (j : Nat) : List SV := [.int .i64 (o j).1, .int .i64 (o j).2]
theorem BInv.nx {R : Int} {i : Nat} {z z' : Wd} (h : BInv R i z) (hl : z'.W.length = 21) (hw : ∀ j, 0 ≤ z'.W.getD j 0 ∧ z'.W.getD j 0 < 18446744073709551616) (o0 : okO (WOk R) z'.c0) (o1 : okO (WOk R) z'.c1) (o2 : okO (ROk R) z'.c2) (o3 : okO (ROk R) z'.c3)
    (hi : i + 1 ≤ 10000 := by (dsimp only; omega)) (s0 : z.st ≤ z'.st := by (dsimp only; omega)) (s1 : z'.st ≤ z.st + 2 := by (dsimp only; omega)) (t0 : z.stb ≤ z'.stb := by (dsimp only; omega)) (t1 : z'.stb ≤ z.stb + 2 := by (dsimp only; omega)) (n0 : z.n ≤ z'.n := by (dsimp only; omega)) (n1 : z'.n ≤ z.n + 1 := by (dsimp only; omega)) : BInv R (i + 1) z' :=
  h.next hi hl hw s0 s1 t0 t1 n0 n1 o0 o1 o2 o3
def w00 : WR := ⟨0, 0, 0, 0, 0, 0, false, [], 0, 0, 0, false, 0, 0⟩
def r00 : RR := ⟨0, 0, 0, 0, none, 0, 0, 0, 0⟩
end Go.Proofs.YtmghcelohnlceaaGreatDoor
