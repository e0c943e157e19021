/- Slots' words; is a number in a row? -/
import Derived.Test.YtfdkaakllceebaaArenaSteps
namespace Go.Proofs.Ytfdkaakllceebaa
open Go Go.Hx
set_option maxRecDepth 8000


def u32 (n : Int) : Int := n % 4294967296
theorem u32_bd (n : Int) : 0 ≤ u32 n ∧ u32 n < 4294967296 := by unfold u32; omega
theorem wrap_u32 (n : Int) : IntKind.u32.wrap n = u32 n := by simp [IntKind.wrap, u32, IntKind.bits, IntKind.signed]
def markV (a b : Int) : Int := u32 (a + 1) * 4294967296 + u32 b
theorem or_hi {hi lo : Int} (h0 : 0 ≤ hi) (h1 : hi < 4294967296) (h2 : 0 ≤ lo) (h3 : lo < 4294967296) : ibits .or .u64 (hi * 4294967296) lo = hi * 4294967296 + lo := by
  obtain ⟨x, rfl⟩ := Int.eq_ofNat_of_zero_le h0
  obtain ⟨y, rfl⟩ := Int.eq_ofNat_of_zero_le h2
  have p : (2 : Nat) ^ 32 = 4294967296 := by decide
  have this := fun h1 h2 h3 => or_low (w := y) (v := x) (at' := 32) h1 h2 h3
  simp only [p] at this
  have this := this (by omega) (by decide) (by omega)
  have e : ((x * 4294967296 : Nat) : Int) = (x : Int) * 4294967296 := by omega
  have e2 : ((x * 4294967296 + y : Nat) : Int) = (x : Int) * 4294967296 + y := by rw [Int.natCast_add, e]
  rw [e, e2] at this
  rw [← this]
  show IntKind.u64.wrap _ = IntKind.u64.wrap _
  rw [BitVec.or_comm]
theorem wI1 (a b : Int) : u32 (IntKind.i64.wrap (a + b)) = u32 (a + b) := by
  simp [IntKind.wrap, u32, IntKind.bits, IntKind.signed]; omega

theorem getV_hi (w : Int) : getV w 32 32 = w / 4294967296 % 4294967296 := by
  have p : (2 : Int) ^ (32 : Int).toNat = 4294967296 := by decide
  unfold getV; rw [p]
theorem getV_lo (w : Int) : getV w 0 32 = w % 4294967296 := by
  have p : (2 : Int) ^ (32 : Int).toNat = 4294967296 := by decide
  have q : (2 : Int) ^ (0 : Int).toNat = 1 := by decide
  unfold getV; rw [p, q, Int.ediv_one]
def clientV (w : Int) : Int := w / 4294967296 - 1
def blkV (w : Int) : Int := w % 4294967296

def ctS1 : Nat → Option Hx.Spec
  | 52 => some (pureS getS)
  | _ => none
theorem ctS1_ok : ∀ f s args H ob V L, ctS1 f = some s → s args H = some (ob, V, L) → AllP ob → Gives Try.prog f args H (Is V L) := by
  intro f s args H ob V L h hs ho
  unfold ctS1 at h
  split at h
  · simp at h; subst h; exact pureS_ok ⟨_, hTE⟩ (getS_ok) hs ho
  · simp at h
noncomputable def XS1 : Tabs := tabs tr ft xt (fun _ => none) ctS1 20
theorem hXS1 : TOk Try.prog XS1 := ⟨hTE, hFT, ctS1_ok, hXT, fun t ks h => by simp [XS1, tabs] at h, mixed⟩
theorem mark_fn (a b : Int) : Gives Try.prog 25 [.int .i64 a, .int .i64 b] [] (Is (.int .u64 (markV a b)) []) := by
  refine gives_x hXS1 (fn := Try.f25) rfl rfl rfl rfl fun ρ w0 => ?_
  refine sx hXS1 [] 200 rfl (by simp [conjP]) ?_
  refine ss_end hXS1 [] rfl rfl trivial rfl rfl rfl rfl ⟨rfl, ?_⟩ trivial (by (repeat' (first | exact rfl | exact trivial | exact sim_refl _ | refine And.intro ?_ ?_))) trivial
  have h1 := u32_bd (a + 1)
  have h2 := u32_bd b
  rw [wrap_u32, wrap_u32, wI1]
  have e1 : IntKind.u64.wrap (u32 (a + 1)) = u32 (a + 1) := wu64 (by omega) (by omega)
  have e2 : IntKind.u64.wrap (u32 b) = u32 b := wu64 (by omega) (by omega)
  rw [e1, e2]
  have e3 : u32 (a + 1) * 2 ^ (min (32 : Int).toNat IntKind.u64.bits) = u32 (a + 1) * 4294967296 := by rw [show (2 : Int) ^ (min (32 : Int).toNat IntKind.u64.bits) = 4294967296 from by decide]
  rw [e3]
  rw [wu64 (by omega) (by omega), or_hi h1.1 h1.2 h2.1 h2.2, markV]
theorem rmark_fn (a b : Int) : Gives Try.prog 38 [.int .i64 a, .int .i64 b] [] (Is (.int .u64 (markV a b)) []) := by
  refine gives_x hXS1 (fn := Try.f38) rfl rfl rfl rfl fun ρ w0 => ?_
  refine sx hXS1 [] 200 rfl (by simp [conjP]) ?_
  refine ss_end hXS1 [] rfl rfl trivial rfl rfl rfl rfl ⟨rfl, ?_⟩ trivial (by (repeat' (first | exact rfl | exact trivial | exact sim_refl _ | refine And.intro ?_ ?_))) trivial
  have h1 := u32_bd (a + 1)
  have h2 := u32_bd b
  rw [wrap_u32, wrap_u32, wI1]
  have e1 : IntKind.u64.wrap (u32 (a + 1)) = u32 (a + 1) := wu64 (by omega) (by omega)
  have e2 : IntKind.u64.wrap (u32 b) = u32 b := wu64 (by omega) (by omega)
  rw [e1, e2]
  have e3 : u32 (a + 1) * 2 ^ (min (32 : Int).toNat IntKind.u64.bits) = u32 (a + 1) * 4294967296 := by rw [show (2 : Int) ^ (min (32 : Int).toNat IntKind.u64.bits) = 4294967296 from by decide]
  rw [e3]
  rw [wu64 (n := u32 (a + 1) * 4294967296) (by omega) (by omega), wu64 (by omega) (by omega), markV]
theorem client_fn {w : Int} (h0 : 0 ≤ w) (h1 : w < 18446744073709551616) : Gives Try.prog 22 [.int .u64 w] [] (Is (.int .i64 (clientV w)) []) := by
  refine gives_x hXS1 (fn := Try.f22) rfl rfl rfl rfl fun ρ w0 => ?_
  refine sx hXS1 [] 200 rfl (by simp [conjP]; omega) ?_
  refine ss_end hXS1 [] rfl rfl trivial rfl rfl rfl rfl ⟨rfl, ?_⟩ trivial (by (repeat' (first | exact rfl | exact trivial | exact sim_refl _ | refine And.intro ?_ ?_))) trivial
  rw [getV_hi]
  have e : w / 4294967296 % 4294967296 = w / 4294967296 := by omega
  rw [e, wi64 (n := w / 4294967296) (by omega) (by omega), wi64 (by omega) (by omega), clientV]
theorem blk_fn {w : Int} (h0 : 0 ≤ w) (h1 : w < 18446744073709551616) : Gives Try.prog 37 [.int .u64 w] [] (Is (.int .i64 (blkV w)) []) := by
  refine gives_x hXS1 (fn := Try.f37) rfl rfl rfl rfl fun ρ w0 => ?_
  refine sx hXS1 [] 200 rfl (by simp [conjP]; omega) ?_
  refine ss_end hXS1 [] rfl rfl trivial rfl rfl rfl rfl ⟨rfl, ?_⟩ trivial (by (repeat' (first | exact rfl | exact trivial | exact sim_refl _ | refine And.intro ?_ ?_))) trivial
  rw [getV_lo, wi64 (by omega) (by omega), blkV]
def markS : List SV → Option (List Prop × SV)
  | [.int .i64 a, .int .i64 b] => some ([], .int .u64 (markV a b))
  | _ => none
theorem markS_ok : PureOk 25 markS := by
  intro args ob V hs ho
  unfold markS at hs
  split at hs
  · simp only [Option.some.injEq, Prod.mk.injEq] at hs
    obtain ⟨rfl, rfl⟩ := hs
    exact ⟨rfl, rfl, mark_fn _ _⟩
  · simp at hs
def rmarkS : List SV → Option (List Prop × SV)
  | [.int .i64 a, .int .i64 b] => some ([], .int .u64 (markV a b))
  | _ => none
theorem rmarkS_ok : PureOk 38 rmarkS := by
  intro args ob V hs ho
  unfold rmarkS at hs
  split at hs
  · simp only [Option.some.injEq, Prod.mk.injEq] at hs
    obtain ⟨rfl, rfl⟩ := hs
    exact ⟨rfl, rfl, rmark_fn _ _⟩
  · simp at hs
def clientS : List SV → Option (List Prop × SV)
  | [.int .u64 w] => some ([0 ≤ w, w < 18446744073709551616], .int .i64 (clientV w))
  | _ => none
theorem clientS_ok : PureOk 22 clientS := by
  intro args ob V hs ho
  unfold clientS at hs
  split at hs
  · simp only [Option.some.injEq, Prod.mk.injEq] at hs
    obtain ⟨rfl, rfl⟩ := hs
    have o1 := ho _ (List.mem_cons_self ..)
    have o2 := ho _ (List.mem_cons_of_mem _ (List.mem_cons_self ..))
    exact ⟨rfl, rfl, client_fn o1 o2⟩
  · simp at hs
def blkS : List SV → Option (List Prop × SV)
  | [.int .u64 w] => some ([0 ≤ w, w < 18446744073709551616], .int .i64 (blkV w))
  | _ => none
theorem blkS_ok : PureOk 37 blkS := by
  intro args ob V hs ho
  unfold blkS at hs
  split at hs
  · simp only [Option.some.injEq, Prod.mk.injEq] at hs
    obtain ⟨rfl, rfl⟩ := hs
    have o1 := ho _ (List.mem_cons_self ..)
    have o2 := ho _ (List.mem_cons_of_mem _ (List.mem_cons_self ..))
    exact ⟨rfl, rfl, blk_fn o1 o2⟩
  · simp at hs

noncomputable def XS0 : Tabs := tabs tr ft xt (fun _ => none) (fun _ => none) 0
theorem hXS0 : TOk Try.prog XS0 := ⟨hTE, hFT, fun f s args H ob V L h => by simp [XS0, tabs] at h, hXT, fun t ks h => by simp [XS0, tabs] at h, mixed⟩
abbrev IB (l : List Int) : HE := .obj (.buf .i64 l 1 3)
end Go.Proofs.Ytfdkaakllceebaa
