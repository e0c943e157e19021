/- Contracts of what puts bits into words and takes them out. -/
import Derived.Test.YtfdkaakllceebaaRight
import Derived.Test.YtfdkaakllceebaaHyc
namespace Go.Proofs.Ytfdkaakllceebaa
open Go Go.Hx
set_option maxRecDepth 8000


def getV (w a n : Int) : Int := w / 2 ^ a.toNat % 2 ^ n.toNat

theorem get_nat (w a n : Nat) (hw : w < 18446744073709551616) (hn : 1 ≤ n) (hs : a + n ≤ 64) : Gives Try.prog 52 [.int .u64 (w : Int), .int .i64 (a : Int), .int .i64 (n : Int)] [] (Is (.int .u64 ((w / 2 ^ a % 2 ^ n : Nat) : Int)) []) := by
  refine gives_x hXp (fn := Try.f52) rfl rfl rfl rfl fun ρ w0 => ?_
  have e1 := wi64 (n := 64 - (n : Int)) (by omega) (by omega)
  refine sx hXp [.T, .T, .T, .F] 400 rfl (by simp [conjP, addOP, e1]; omega) ?_
  refine ss_end hXp [] rfl rfl trivial rfl rfl rfl rfl ⟨rfl, ?_⟩ trivial (by (repeat' (first | exact rfl | exact trivial | exact sim_refl _ | refine And.intro ?_ ?_))) trivial
  rw [ones hn (by omega)]
  have e2 : Int.fdiv (w : Int) (2 ^ (min ((a : Int)).toNat IntKind.u64.bits)) = ((w / 2 ^ a : Nat) : Int) := by
    show Int.fdiv (w : Int) (2 ^ (min a 64)) = _
    rw [Nat.min_eq_left (by omega), show (2 : Int) ^ a = ((2 ^ a : Nat) : Int) from by simp]
    exact Int.fdiv_eq_ediv_of_nonneg _ (Int.natCast_nonneg _)
  rw [e2]
  exact and_mask (Nat.lt_of_le_of_lt (Nat.div_le_self _ _) hw) (by omega)


theorem get_fn (w a n : Int) (h0 : 0 ≤ w) (h1 : w < 18446744073709551616) (h2 : 0 ≤ a) (h3 : 1 ≤ n) (h4 : a + n ≤ 64) : Gives Try.prog 52 [.int .u64 w, .int .i64 a, .int .i64 n] [] (Is (.int .u64 (getV w a n)) []) := by
  obtain ⟨w, rfl⟩ := Int.eq_ofNat_of_zero_le h0
  obtain ⟨a, rfl⟩ := Int.eq_ofNat_of_zero_le h2
  obtain ⟨n, rfl⟩ := Int.eq_ofNat_of_zero_le (show 0 ≤ n by omega)
  have := get_nat w a n (by omega) (by omega) (by omega)
  have e : getV w a n = ((w / 2 ^ a % 2 ^ n : Nat) : Int) := by simp [getV]
  rw [e]; exact this

abbrev PureOk' (f : Nat) (g : List SV → Option (List Prop × SV)) : Prop := ∀ args ob V, g args = some (ob, V) → AllP ob → SV.okhs (fun _ => false) args = true ∧ V.okh (fun _ => false) = true ∧ Gives Try.prog f args [] (Is V [])
def getS : List SV → Option (List Prop × SV)
  | [.int .u64 w, .int .i64 a, .int .i64 n] => some ([0 ≤ w, w < 18446744073709551616, 0 ≤ a, 1 ≤ n, a + n ≤ 64], .int .u64 (getV w a n))
  | _ => none
theorem getS_ok : PureOk' 52 getS := by
  intro args ob V hs ho
  unfold getS at hs
  split at hs
  · simp at hs; obtain ⟨rfl, rfl⟩ := hs; exact ⟨rfl, rfl, get_fn _ _ _ (ho _ (by simp)) (ho _ (by simp)) (ho _ (by simp)) (ho _ (by simp)) (ho _ (by simp))⟩
  · simp at hs
end Go.Proofs.Ytfdkaakllceebaa
