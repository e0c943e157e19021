/- SlotsApart's walk. -/
import Derived.Test.YtfdkaakllceebaaSlotLaw
namespace Go.Proofs.Ytfdkaakllceebaa
open Go Go.Hx
set_option maxRecDepth 8000


def actRow (o : Nat → ActV) (j : Nat) : List SV := [.int .i64 (o j).who, .int .i64 (o j).which, .bool (o j).back]
def tkO (S m a : Int) : SO := .cells [.int .i64 1, .int .i64 4, .int .i64 S, .int .i64 4, .int .i64 4, .int .i64 2, .int .i64 6, .int .i64 2, .int .i64 2, .int .i64 m, .int .i64 a, .int .i64 (-1)] 78
abbrev clO (b : Nat) (c : Cl) : HE := .obj (.cells [slV c.own (b + 1), ptrV c.take (b + 2), .nilptr, opqV c.tb (b + 3), opqV c.gb (b + 4)] 47)
abbrev cfO (S : Int) : HE := .obj (.cells [.int .i64 1, .int .i64 4, .int .i64 S, .int .i64 4, .int .i64 4, .int .i64 2, .int .i64 6, .int .i64 2, .int .i64 2] 28)
abbrev kaO : HE := .obj (.cells [.ptr 5 0, .ptr 10 0, .ptr 15 0, .ptr 20 0] 42)
/-- The heap behind some turns. -/
def saH (n : Nat) (o : Nat → ActV) (S : Int) (W : List Int) (st kd wd vl : Int) (ch : Bool) (c0 c1 c2 c3 : Cl) : List HE :=
  [.obj (.rows n 3 (actRow o)), cfO S, WO W, AOx 2 W st kd wd vl ch, kaO,
    clO 5 c0, slE c0.own .i64 3, objE (c0.take.map (tkO S 0)), opqE c0.tb, opqE c0.gb,
    clO 10 c1, slE c1.own .i64 3, objE (c1.take.map (tkO S 1)), opqE c1.tb, opqE c1.gb,
    clO 15 c2, slE c2.own .i64 3, objE (c2.take.map (tkO S 2)), opqE c2.tb, opqE c2.gb,
    clO 20 c3, slE c3.own .i64 3, objE (c3.take.map (tkO S 3)), opqE c3.tb, opqE c3.gb]
abbrev saX (n : Nat) (o : Nat → ActV) (S : Int) (x : SA) : List HE := saH n o S x.W x.st x.kd x.wd x.vl x.ch x.c0 x.c1 x.c2 x.c3
/-- The names behind a round of client m: its row, its claim, and (t, g) what else is new. -/
def sigCl (m : Nat) (t g : Bool) (H : List HE) : Option (List Nat) :=
  match hdlF H (5 * m + 5) 0 60, hdlF H (5 * m + 5) 1 61, (match t with | true => hdlF H (5 * m + 5) 3 62 | false => nums[5 * m + 8]?), (match g with | true => hdlF H (5 * m + 5) 4 63 | false => nums[5 * m + 9]?) with
  | some a, some b, some c, some d => match m with
    | 0 => some [0, 1, 2, 3, 4, 5, a, b, c, d, 10, 11, 12, 13, 14, 15, 16, 17, 18, 19, 20, 21, 22, 23, 24]
    | 1 => some [0, 1, 2, 3, 4, 5, 6, 7, 8, 9, 10, a, b, c, d, 15, 16, 17, 18, 19, 20, 21, 22, 23, 24]
    | 2 => some [0, 1, 2, 3, 4, 5, 6, 7, 8, 9, 10, 11, 12, 13, 14, 15, a, b, c, d, 20, 21, 22, 23, 24]
    | _ => some [0, 1, 2, 3, 4, 5, 6, 7, 8, 9, 10, 11, 12, 13, 14, 15, 16, 17, 18, 19, 20, a, b, c, d]
  | _, _, _, _ => none
theorem okE_tk {A : Nat → Bool} {S m : Int} {o : Option Int} : okE A (objE (o.map (tkO S m))) := okE_objM fun a => ⟨trivial, trivial, trivial, trivial, trivial, trivial, trivial, trivial, trivial, trivial, trivial, trivial, trivial⟩
theorem ren_tk {σ : Nat → Nat} {S m : Int} {o : Option Int} : (objE (o.map (tkO S m))).ren σ = objE (o.map (tkO S m)) := ren_objM fun a => rfl
def saT (sv : SV) (i : Nat) : List (Nat × SV) := [(1, sv), (5, .tt), (6, .ptr 1 0), (7, .ptr 3 0), (9, .slice 4 0 4 4), (10, .int .i64 (i : Int))]
end Go.Proofs.Ytfdkaakllceebaa
