/- Contracts of what puts bits into words and takes them out. -/
import Derived.Test.YtkkddjchkkaagaaGreatDoorRight
import Derived.Test.YtkkddjchkkaagaaGreatDoorHyc
namespace Go.Proofs.YtkkddjchkkaagaaGreatDoor
open Go Go.Hx
set_option maxRecDepth 8000


def getV (w a n : Int) : Int := w / 2 ^ a.toNat % 2 ^ n.toNat
def setV (w a v : Int) : Int := v * 2 ^ a.toNat + w

theorem get_nat (w a n : Nat) (hw : w < 18446744073709551616) (hn : 1 ≤ n) (hs : a + n ≤ 64) : Gives Tryz.prog 195 [.int .u64 (w : Int), .int .i64 (a : Int), .int .i64 (n : Int)] [] (Is (.int .u64 ((w / 2 ^ a % 2 ^ n : Nat) : Int)) []) := by
  refine gives_x hXp (fn := Tryz.f195) rfl rfl rfl rfl fun ρ w0 => ?_
  have e1 := wi64 (n := 64 - (n : Int)) (by omega) (by omega)
  refine sx hXp [.T, .T, .T, .F] 400 rfl (by simp [conjP, e1]; omega) ?_
  refine ss_end hXp [] rfl rfl trivial rfl rfl rfl rfl ⟨rfl, ?_⟩ trivial (by (repeat' (first | exact rfl | exact trivial | exact sim_refl _ | refine And.intro ?_ ?_))) trivial
  rw [ones hn (by omega)]
  have e2 : Int.fdiv (w : Int) (2 ^ (min ((a : Int)).toNat IntKind.u64.bits)) = ((w / 2 ^ a : Nat) : Int) := by
    show Int.fdiv (w : Int) (2 ^ (min a 64)) = _
    rw [Nat.min_eq_left (by omega), show (2 : Int) ^ a = ((2 ^ a : Nat) : Int) from by simp]
    exact Int.fdiv_eq_ediv_of_nonneg _ (Int.natCast_nonneg _)
  rw [e2]
  exact and_mask (Nat.lt_of_le_of_lt (Nat.div_le_self _ _) hw) (by omega)

theorem set_nat (w a n v : Nat) (hn : 1 ≤ n) (hs : a + n ≤ 64) (hv : v < 2 ^ n) (hw : w < 2 ^ a) : Gives Tryz.prog 147 [.int .u64 (w : Int), .int .i64 (a : Int), .int .i64 (n : Int), .int .u64 (v : Int)] [] (Is (.tup [.int .u64 ((v * 2 ^ a + w : Nat) : Int), .tt]) []) := by
  refine gives_x hXp (fn := Tryz.f147) rfl rfl rfl rfl fun ρ w0 => ?_
  have e1 := wi64 (n := 64 - (n : Int)) (by omega) (by omega)
  have e2 := ones hn (by omega)
  have e3 := andNot_mask hv (by omega)
  refine sx hXp [.T, .T, .T, .F, .F] 400 rfl (by
    rw [e2]
    simp only [conjP, e3]
    simp [e1]; omega) ?_
  have ha := pow64 (n := a + n) hs
  have hp : 2 ^ (a + n) = 2 ^ n * 2 ^ a := by rw [Nat.pow_add, Nat.mul_comm]
  have h1 : (2 ^ n - 1) * 2 ^ a < 18446744073709551616 := by
    have : (2 ^ n - 1) * 2 ^ a < 2 ^ n * 2 ^ a := Nat.mul_lt_mul_of_pos_right (by have := Nat.one_le_two_pow (n := n); omega) (Nat.two_pow_pos a)
    omega
  have h2 : v * 2 ^ a + w < 18446744073709551616 := by
    have : (v + 1) * 2 ^ a ≤ 2 ^ n * 2 ^ a := Nat.mul_le_mul_right _ (by omega)
    rw [Nat.add_mul] at this; omega
  have f1 : IntKind.u64.wrap (((2 ^ n - 1 : Nat) : Int) * 2 ^ (min ((a : Int)).toNat IntKind.u64.bits)) = (((2 ^ n - 1) * 2 ^ a : Nat) : Int) := by
    show IntKind.u64.wrap (((2 ^ n - 1 : Nat) : Int) * 2 ^ (min a 64)) = _
    rw [Nat.min_eq_left (by omega), show ((2 ^ n - 1 : Nat) : Int) * (2 : Int) ^ a = (((2 ^ n - 1) * 2 ^ a : Nat) : Int) from by simp]
    exact wrapU (Int.natCast_nonneg _) (by omega)
  have f2 : IntKind.u64.wrap ((v : Int) * 2 ^ (min ((a : Int)).toNat IntKind.u64.bits)) = ((v * 2 ^ a : Nat) : Int) := by
    show IntKind.u64.wrap ((v : Int) * 2 ^ (min a 64)) = _
    rw [Nat.min_eq_left (by omega), show (v : Int) * (2 : Int) ^ a = ((v * 2 ^ a : Nat) : Int) from by simp]
    exact wrapU (Int.natCast_nonneg _) (by omega)
  refine ss_end hXp [] rfl rfl trivial rfl rfl rfl rfl ⟨⟨rfl, ?_⟩, rfl, trivial⟩ trivial (by (repeat' (first | exact rfl | exact trivial | exact sim_refl _ | refine And.intro ?_ ?_))) trivial
  rw [e2, f1, f2, andNot_low hw (by omega) h1]
  exact or_low hw (by omega) h2

theorem get_fn (w a n : Int) (h0 : 0 ≤ w) (h1 : w < 18446744073709551616) (h2 : 0 ≤ a) (h3 : 1 ≤ n) (h4 : a + n ≤ 64) : Gives Tryz.prog 195 [.int .u64 w, .int .i64 a, .int .i64 n] [] (Is (.int .u64 (getV w a n)) []) := by
  obtain ⟨w, rfl⟩ := Int.eq_ofNat_of_zero_le h0
  obtain ⟨a, rfl⟩ := Int.eq_ofNat_of_zero_le h2
  obtain ⟨n, rfl⟩ := Int.eq_ofNat_of_zero_le (show 0 ≤ n by omega)
  have := get_nat w a n (by omega) (by omega) (by omega)
  have e : getV w a n = ((w / 2 ^ a % 2 ^ n : Nat) : Int) := by simp [getV]
  rw [e]; exact this
theorem set_fn (w a n v : Int) (h0 : 0 ≤ w) (h1 : w < 2 ^ a.toNat) (h2 : 0 ≤ a) (h3 : 1 ≤ n) (h4 : a + n ≤ 64) (h5 : 0 ≤ v) (h6 : v < 2 ^ n.toNat) : Gives Tryz.prog 147 [.int .u64 w, .int .i64 a, .int .i64 n, .int .u64 v] [] (Is (.tup [.int .u64 (setV w a v), .tt]) []) := by
  obtain ⟨w, rfl⟩ := Int.eq_ofNat_of_zero_le h0
  obtain ⟨a, rfl⟩ := Int.eq_ofNat_of_zero_le h2
  obtain ⟨n, rfl⟩ := Int.eq_ofNat_of_zero_le (show 0 ≤ n by omega)
  obtain ⟨v, rfl⟩ := Int.eq_ofNat_of_zero_le h5
  have h1' : w < 2 ^ a := by
    have : (w : Int) < ((2 ^ a : Nat) : Int) := by simpa using h1
    exact_mod_cast this
  have h6' : v < 2 ^ n := by
    have : (v : Int) < ((2 ^ n : Nat) : Int) := by simpa using h6
    exact_mod_cast this
  have := set_nat w a n v (by omega) (by omega) h6' h1'
  have e : setV w a v = ((v * 2 ^ a + w : Nat) : Int) := by simp [setV]
  rw [e]; exact this

abbrev PureOk' (f : Nat) (g : List SV → Option (List Prop × SV)) : Prop := ∀ args ob V, g args = some (ob, V) → AllP ob → SV.okhs (fun _ => false) args = true ∧ V.okh (fun _ => false) = true ∧ Gives Tryz.prog f args [] (Is V [])
def getS : List SV → Option (List Prop × SV)
  | [.int .u64 w, .int .i64 a, .int .i64 n] => some ([0 ≤ w, w < 18446744073709551616, 0 ≤ a, 1 ≤ n, a + n ≤ 64], .int .u64 (getV w a n))
  | _ => none
theorem getS_ok : PureOk' 195 getS := by
  intro args ob V hs ho
  unfold getS at hs
  split at hs
  · simp at hs; obtain ⟨rfl, rfl⟩ := hs; exact ⟨rfl, rfl, get_fn _ _ _ (ho _ (by simp)) (ho _ (by simp)) (ho _ (by simp)) (ho _ (by simp)) (ho _ (by simp))⟩
  · simp at hs
def setS : List SV → Option (List Prop × SV)
  | [.int .u64 w, .int .i64 a, .int .i64 n, .int .u64 v] => some ([0 ≤ w, w < 2 ^ a.toNat, 0 ≤ a, 1 ≤ n, a + n ≤ 64, 0 ≤ v, v < 2 ^ n.toNat], .tup [.int .u64 (setV w a v), .tt])
  | _ => none
theorem setS_ok : PureOk' 147 setS := by
  intro args ob V hs ho
  unfold setS at hs
  split at hs
  · simp at hs; obtain ⟨rfl, rfl⟩ := hs; exact ⟨rfl, rfl, set_fn _ _ _ _ (ho _ (by simp)) (ho _ (by simp)) (ho _ (by simp)) (ho _ (by simp)) (ho _ (by simp)) (ho _ (by simp)) (ho _ (by simp))⟩
  · simp at hs
end Go.Proofs.YtkkddjchkkaagaaGreatDoor
