/- Heads: contracts. -/
import Derived.Test.YtfdkaakllceebaaDoorSlotWords
namespace Go.Proofs.YtfdkaakllceebaaDoor
open Go Go.Hx
set_option maxRecDepth 8000


def turnV (w b : Int) : Int := (w / 4294967296 + 1) % 4294967296 * 4294967296 + b % 4294967296
/-! Heads. -/
theorem shl32 (x : Int) : x * 2 ^ (min (32 : Int).toNat IntKind.u64.bits) = x * 4294967296 := by rw [show (2 : Int) ^ (min (32 : Int).toNat IntKind.u64.bits) = 4294967296 from by decide]
theorem headV_eq {t b : Int} (h0 : 0 ≤ t) (h1 : t < 4294967296) : IntKind.u64.wrap (IntKind.u64.wrap t * 2 ^ (min (32 : Int).toNat IntKind.u64.bits)) = t * 4294967296 ∧ IntKind.u64.wrap (IntKind.u32.wrap b) = b % 4294967296 := by
  refine ⟨?_, ?_⟩
  · rw [wu64 (n := t) (by omega) (by omega), shl32, wu64 (by omega) (by omega)]
  · rw [wrap_u32]; have := u32_bd b; rw [wu64 (by omega) (by omega)]; rfl
theorem hMake_fn {t b : Int} (h0 : 0 ≤ t) (h1 : t < 4294967296) : Gives Tryd.prog 15 [.int .u32 t, .int .i64 b] [] (Is (.int .u64 (t * 4294967296 + b % 4294967296)) []) := by
  refine gives_x hXS1 (fn := Tryd.f15) rfl rfl rfl rfl fun ρ w0 => ?_
  refine sx hXS1 [] 200 rfl (by simp [conjP]) ?_
  refine ss_end hXS1 [] rfl rfl trivial rfl rfl rfl rfl ⟨rfl, ?_⟩ trivial (by (repeat' (first | exact rfl | exact trivial | exact sim_refl _ | refine And.intro ?_ ?_))) trivial
  obtain ⟨e1, e2⟩ := headV_eq (b := b) h0 h1
  rw [e1, e2, or_hi h0 h1 (by omega) (by omega)]
def hMakeS : List SV → Option (List Prop × SV)
  | [.int .u32 t, .int .i64 b] => some ([0 ≤ t, t < 4294967296], .int .u64 (t * 4294967296 + b % 4294967296))
  | _ => none
theorem hMakeS_ok : PureOk 15 hMakeS := by
  intro args ob V hs ho
  unfold hMakeS at hs
  split at hs
  · simp only [Option.some.injEq, Prod.mk.injEq] at hs
    obtain ⟨rfl, rfl⟩ := hs
    have o1 := ho _ (List.mem_cons_self ..)
    have o2 := ho _ (List.mem_cons_of_mem _ (List.mem_cons_self ..))
    exact ⟨rfl, rfl, hMake_fn o1 o2⟩
  · simp at hs
theorem rhMake_fn {t b : Int} (h0 : 0 ≤ t) (h1 : t < 4294967296) : Gives Tryd.prog 16 [.int .u32 t, .int .i64 b] [] (Is (.int .u64 (t * 4294967296 + b % 4294967296)) []) := by
  refine gives_x hXS1 (fn := Tryd.f16) rfl rfl rfl rfl fun ρ w0 => ?_
  refine sx hXS1 [] 200 rfl (by simp [conjP]) ?_
  refine ss_end hXS1 [] rfl rfl trivial rfl rfl rfl rfl ⟨rfl, ?_⟩ trivial (by (repeat' (first | exact rfl | exact trivial | exact sim_refl _ | refine And.intro ?_ ?_))) trivial
  obtain ⟨e1, e2⟩ := headV_eq (b := b) h0 h1
  rw [e1, e2, wu64 (by omega) (by omega)]
def rhMakeS : List SV → Option (List Prop × SV)
  | [.int .u32 t, .int .i64 b] => some ([0 ≤ t, t < 4294967296], .int .u64 (t * 4294967296 + b % 4294967296))
  | _ => none
theorem rhMakeS_ok : PureOk 16 rhMakeS := by
  intro args ob V hs ho
  unfold rhMakeS at hs
  split at hs
  · simp only [Option.some.injEq, Prod.mk.injEq] at hs
    obtain ⟨rfl, rfl⟩ := hs
    have o1 := ho _ (List.mem_cons_self ..)
    have o2 := ho _ (List.mem_cons_of_mem _ (List.mem_cons_self ..))
    exact ⟨rfl, rfl, rhMake_fn o1 o2⟩
  · simp at hs
theorem hBlock_fn {w : Int} (h0 : 0 ≤ w) (h1 : w < 18446744073709551616) : Gives Tryd.prog 18 [.int .u64 w] [] (Is (.int .i64 (w % 4294967296)) []) := by
  refine gives_x hXS1 (fn := Tryd.f18) rfl rfl rfl rfl fun ρ w0 => ?_
  refine sx hXS1 [] 200 rfl (by simp [conjP]; omega) ?_
  refine ss_end hXS1 [] rfl rfl trivial rfl rfl rfl rfl ⟨rfl, ?_⟩ trivial (by (repeat' (first | exact rfl | exact trivial | exact sim_refl _ | refine And.intro ?_ ?_))) trivial
  rw [getV_lo, wi64 (by omega) (by omega)]
def hBlockS : List SV → Option (List Prop × SV)
  | [.int .u64 w] => some ([0 ≤ w, w < 18446744073709551616], .int .i64 (w % 4294967296))
  | _ => none
theorem hBlockS_ok : PureOk 18 hBlockS := by
  intro args ob V hs ho
  unfold hBlockS at hs
  split at hs
  · simp only [Option.some.injEq, Prod.mk.injEq] at hs
    obtain ⟨rfl, rfl⟩ := hs
    have o1 := ho _ (List.mem_cons_self ..)
    have o2 := ho _ (List.mem_cons_of_mem _ (List.mem_cons_self ..))
    exact ⟨rfl, rfl, hBlock_fn o1 o2⟩
  · simp at hs
theorem hTag_fn {w : Int} (h0 : 0 ≤ w) (h1 : w < 18446744073709551616) : Gives Tryd.prog 17 [.int .u64 w] [] (Is (.int .u32 (w / 4294967296)) []) := by
  refine gives_x hXS1 (fn := Tryd.f17) rfl rfl rfl rfl fun ρ w0 => ?_
  refine sx hXS1 [] 200 rfl (by simp [conjP]; omega) ?_
  refine ss_end hXS1 [] rfl rfl trivial rfl rfl rfl rfl ⟨rfl, ?_⟩ trivial (by (repeat' (first | exact rfl | exact trivial | exact sim_refl _ | refine And.intro ?_ ?_))) trivial
  rw [getV_hi, wrap_u32, u32]; omega
def hTagS : List SV → Option (List Prop × SV)
  | [.int .u64 w] => some ([0 ≤ w, w < 18446744073709551616], .int .u32 (w / 4294967296))
  | _ => none
theorem hTagS_ok : PureOk 17 hTagS := by
  intro args ob V hs ho
  unfold hTagS at hs
  split at hs
  · simp only [Option.some.injEq, Prod.mk.injEq] at hs
    obtain ⟨rfl, rfl⟩ := hs
    have o1 := ho _ (List.mem_cons_self ..)
    have o2 := ho _ (List.mem_cons_of_mem _ (List.mem_cons_self ..))
    exact ⟨rfl, rfl, hTag_fn o1 o2⟩
  · simp at hs
def ctHd : Nat → Option Hx.Spec
  | 15 => some (pureS hMakeS)
  | 17 => some (pureS hTagS)
  | 16 => some (pureS rhMakeS)
  | 36 => some (pureS getS)
  | _ => none
theorem ctHd_ok : ∀ f s args H ob V L, ctHd f = some s → s args H = some (ob, V, L) → AllP ob → Gives Tryd.prog f args H (Is V L) := by
  intro f s args H ob V L h hs ho
  unfold ctHd at h
  split at h
  · simp at h; subst h; exact pureS_ok ⟨_, hTE⟩ (hMakeS_ok) hs ho
  · simp at h; subst h; exact pureS_ok ⟨_, hTE⟩ (hTagS_ok) hs ho
  · simp at h; subst h; exact pureS_ok ⟨_, hTE⟩ (rhMakeS_ok) hs ho
  · simp at h; subst h; exact pureS_ok ⟨_, hTE⟩ (getS_ok) hs ho
  · simp at h
noncomputable def XHd : Tabs := tabs tr ft xt (fun _ => none) ctHd 20
theorem hXHd : TOk Tryd.prog (XHd) := ⟨hTE, hFT, ctHd_ok, hXT, fun t ks h => by simp [XHd, tabs] at h, mixed⟩
theorem wrap_u32' (n : Int) : IntKind.u32.wrap n = n % 4294967296 := by simp [IntKind.wrap, IntKind.bits, IntKind.signed]
theorem hTurn_fn {w b : Int} (h0 : 0 ≤ w) (h1 : w < 18446744073709551616) : Gives Tryd.prog 19 [.int .u64 w, .int .i64 b] [] (Is (.int .u64 (turnV w b)) []) := by
  refine gives_x hXHd (fn := Tryd.f19) rfl rfl rfl rfl fun ρ w0 => ?_
  have e := wrap_u32' (w / 4294967296 + 1)
  refine sx hXHd [] 200 rfl (by simp [conjP, h0, h1, e]; omega) ?_
  refine ss_end hXHd [] rfl rfl trivial rfl rfl rfl rfl ⟨rfl, ?_⟩ trivial (by (repeat' (first | exact rfl | exact trivial | exact sim_refl _ | refine And.intro ?_ ?_))) trivial
  rw [e]; rfl
def hTurnS : List SV → Option (List Prop × SV)
  | [.int .u64 w, .int .i64 b] => some ([0 ≤ w, w < 18446744073709551616], .int .u64 (turnV w b))
  | _ => none
theorem hTurnS_ok : PureOk 19 hTurnS := by
  intro args ob V hs ho
  unfold hTurnS at hs
  split at hs
  · simp only [Option.some.injEq, Prod.mk.injEq] at hs
    obtain ⟨rfl, rfl⟩ := hs
    have o1 := ho _ (List.mem_cons_self ..)
    have o2 := ho _ (List.mem_cons_of_mem _ (List.mem_cons_self ..))
    exact ⟨rfl, rfl, hTurn_fn o1 o2⟩
  · simp at hs
theorem rhTurn_fn {w b : Int} (_h0 : 0 ≤ w) (_h1 : w < 18446744073709551616) : Gives Tryd.prog 20 [.int .u64 w, .int .i64 b] [] (Is (.int .u64 (turnV w b)) []) := by
  refine gives_x hXHd (fn := Tryd.f20) rfl rfl rfl rfl fun ρ w0 => ?_
  have e := wrap_u32' (w / 4294967296 + 1)
  have p : w.fdiv (2 ^ (min (32 : Int).toNat IntKind.u64.bits)) = w / 4294967296 := by rw [show (2 : Int) ^ (min (32 : Int).toNat IntKind.u64.bits) = 4294967296 from by decide, Int.fdiv_eq_ediv_of_nonneg _ (by decide)]
  have e2 : IntKind.u32.wrap (IntKind.u32.wrap (w / 4294967296) + 1) = (w / 4294967296 + 1) % 4294967296 := by rw [wrap_u32', wrap_u32']; omega
  have p' : w.fdiv (2 ^ (min 32 IntKind.u64.bits)) = w / 4294967296 := p
  refine sx hXHd [] 200 rfl (by simp [conjP, p', e2] <;> omega) ?_
  refine ss_end hXHd [] rfl rfl trivial rfl rfl rfl rfl ⟨rfl, ?_⟩ trivial (by (repeat' (first | exact rfl | exact trivial | exact sim_refl _ | refine And.intro ?_ ?_))) trivial
  rw [p, e2]; rfl
def rhTurnS : List SV → Option (List Prop × SV)
  | [.int .u64 w, .int .i64 b] => some ([0 ≤ w, w < 18446744073709551616], .int .u64 (turnV w b))
  | _ => none
theorem rhTurnS_ok : PureOk 20 rhTurnS := by
  intro args ob V hs ho
  unfold rhTurnS at hs
  split at hs
  · simp only [Option.some.injEq, Prod.mk.injEq] at hs
    obtain ⟨rfl, rfl⟩ := hs
    have o1 := ho _ (List.mem_cons_self ..)
    have o2 := ho _ (List.mem_cons_of_mem _ (List.mem_cons_self ..))
    exact ⟨rfl, rfl, rhTurn_fn o1 o2⟩
  · simp at hs
theorem pHead_fn {c : Int} (h0 : 0 ≤ c) (h1 : c ≤ 1) : Gives Tryd.prog 47 [.int .i64 c] [] (Is (.int .i64 (3 + c)) []) := by
  refine gives_x hXS1 (fn := Tryd.f47) rfl rfl rfl rfl fun ρ w0 => ?_
  refine sx hXS1 [] 400 rfl (by (simp [-List.getD_eq_getElem?_getD, -List.length_eq_zero_iff, conjP] <;> (first | omega | ((repeat' (refine And.intro ?_ ?_)) <;> (first | omega | exact decide_eq_false (by omega) | exact decide_eq_true (by omega)))))) ?_
  refine sx hXS1 [.F] 400 rfl (by (simp [-List.getD_eq_getElem?_getD, -List.length_eq_zero_iff, conjP, addOP, h0] <;> (first | omega | ((repeat' (refine And.intro ?_ ?_)) <;> (first | omega | exact decide_eq_false (by omega) | exact decide_eq_true (by omega)))))) ?_
  refine sx hXS1 [.F] 400 rfl (by (simp [-List.getD_eq_getElem?_getD, -List.length_eq_zero_iff, conjP, addOP, h1] <;> (first | omega | ((repeat' (refine And.intro ?_ ?_)) <;> (first | omega | exact decide_eq_false (by omega) | exact decide_eq_true (by omega)))))) ?_
  (exact ss_end hXS1 [] rfl rfl trivial rfl rfl rfl rfl ⟨rfl, wi64 (by omega) (by omega)⟩ trivial (by (repeat' (first | exact rfl | exact trivial | exact sim_refl _ | refine And.intro ?_ ?_))) trivial)
def pHeadS : List SV → Option (List Prop × SV)
  | [.int .i64 c] => some ([0 ≤ c, c ≤ 1], .int .i64 (3 + c))
  | _ => none
theorem pHeadS_ok : PureOk 47 pHeadS := by
  intro args ob V hs ho
  unfold pHeadS at hs
  split at hs
  · simp only [Option.some.injEq, Prod.mk.injEq] at hs
    obtain ⟨rfl, rfl⟩ := hs
    have o1 := ho _ (List.mem_cons_self ..)
    have o2 := ho _ (List.mem_cons_of_mem _ (List.mem_cons_self ..))
    exact ⟨rfl, rfl, pHead_fn o1 o2⟩
  · simp at hs
def ctPo0 : Nat → Option Hx.Spec
  | 44 => some (pureS rightS)
  | 60 => some (pureS rightS)
  | 33 => some (pureS (placeS classF))
  | 48 => some (pureS (placeS blockF))
  | 13 => some (pureS (placeS classF))
  | 28 => some (pureS (placeS blockF))
  | 18 => some (pureS hBlockS)
  | 19 => some (pureS hTurnS)
  | 20 => some (pureS rhTurnS)
  | 47 => some (pureS pHeadS)
  | _ => none
theorem ctPo0_ok : ∀ f s args H ob V L, ctPo0 f = some s → s args H = some (ob, V, L) → AllP ob → Gives Tryd.prog f args H (Is V L) := by
  intro f s args H ob V L h hs ho
  unfold ctPo0 at h
  split at h
  · simp at h; subst h; exact pureS_ok ⟨_, hTE⟩ (rightS_ok right44) hs ho
  · simp at h; subst h; exact pureS_ok ⟨_, hTE⟩ (rightS_ok right60) hs ho
  · simp at h; subst h; exact pureS_ok ⟨_, hTE⟩ (placeS_ok (v := classF) class_fn) hs ho
  · simp at h; subst h; exact pureS_ok ⟨_, hTE⟩ (placeS_ok (v := blockF) block_fn) hs ho
  · simp at h; subst h; exact pureS_ok ⟨_, hTE⟩ (placeS_ok (v := classF) rclass_fn) hs ho
  · simp at h; subst h; exact pureS_ok ⟨_, hTE⟩ (placeS_ok (v := blockF) rblock_fn) hs ho
  · simp at h; subst h; exact pureS_ok ⟨_, hTE⟩ (hBlockS_ok) hs ho
  · simp at h; subst h; exact pureS_ok ⟨_, hTE⟩ (hTurnS_ok) hs ho
  · simp at h; subst h; exact pureS_ok ⟨_, hTE⟩ (rhTurnS_ok) hs ho
  · simp at h; subst h; exact pureS_ok ⟨_, hTE⟩ (pHeadS_ok) hs ho
  · simp at h
noncomputable def XPo0 : Tabs := tabs tr ft xt (fun _ => none) ctPo0 0
theorem hXPo0 : TOk Tryd.prog (XPo0) := ⟨hTE, hFT, ctPo0_ok, hXT, fun t ks h => by simp [XPo0, tabs] at h, mixed⟩

end Go.Proofs.YtfdkaakllceebaaDoor
