/- Of the script, of its absence, and what closes a walk; the world as made. -/
import Derived.Test.YtkkddjchkkaagaaGreatDoorWorld
import Derived.Test.YtkkddjchkkaagaaGreatDoorAwake
import Derived.Test.YtkkddjchkkaagaaGreatDoorAsVar
namespace Go.Proofs.YtkkddjchkkaagaaGreatDoor
open Go Go.Hx
set_option maxRecDepth 8000
def actR (o : Nat → Int × Int × Bool × Bool) (i : Nat) : List SV := [.int .i64 (o i).1, .int .i64 (o i).2.1, .bool (o i).2.2.1, .bool (o i).2.2.2]
/-- What follows a round. -/
def downLp : List KI → List KI
  | [] => []
  | .lp I :: k => .lp I :: k
  | _ :: r => downLp r
theorem a3_cases (m : Int) : ibits .and .i64 m 3 = 0 ∨ ibits .and .i64 m 3 = 1 ∨ ibits .and .i64 m 3 = 2 ∨ ibits .and .i64 m 3 = 3 := by
  have := and3 m
  omega
/-- The world as made. -/
def mkQ (T : Nat) (R : Int) (v : Nat → Value) : Tq := ⟨(mkA (T : Int) 4 1 4 4 1 6 0 R).W, (mkA (T : Int) 4 1 4 4 1 6 0 R).st, 2, (mkA (T : Int) 4 1 4 4 1 6 0 R).wd, (mkA (T : Int) 4 1 4 4 1 6 0 R).vl, true, none, none, none, v 0, v 1, v 2, 0, 0, 0⟩
def vv3 (a b c : Value) : Nat → Value
  | 0 => a
  | 1 => b
  | _ => c
theorem mkQ_len {T : Nat} {R : Int} (t1 : 1 ≤ T) (t4 : T ≤ 4) : (mkA (T : Int) 4 1 4 4 1 6 0 R).W.length = 11 + 10 * T := by
  rw [mkA_len]
  unfold sizeV
  omega
theorem mkQ_bi {T : Nat} {R : Int} (t1 : 1 ≤ T) (t4 : T ≤ 4) (r1 : 1 ≤ R) (r8 : R ≤ 8) : BI T R 0 (mkA (T : Int) 4 1 4 4 1 6 0 R).W (mkA (T : Int) 4 1 4 4 1 6 0 R).st := by
  have hr := right_TR t1 t4 r1 r8
  have hst := mkA_st hr
  have w2 : (mkA (T : Int) 4 1 4 4 1 6 0 R).W.getD 2 0 = 0 := mkA_zero hr (.inl rfl)
  exact ⟨t1, t4, r1, r8, by decide, by decide, mkQ_len t1 t4, mkA_bd hr, by omega, by omega, by omega⟩
theorem cfg_cases (q0 q1 : Int) : ∃ T : Nat, 1 ≤ T ∧ T ≤ 4 ∧ cAnd 3 q0 = (T : Int) ∧ 1 ≤ cAnd 7 q1 ∧ cAnd 7 q1 ≤ 8 := by
  have h3 := cAnd3 q0
  have h7 := cAnd7 q1
  exact ⟨(cAnd 3 q0).toNat, by omega, by omega, by omega, by omega, by omega⟩
end Go.Proofs.YtkkddjchkkaagaaGreatDoor
