/- Runs that take a block and give one back: each step as a contract. -/
import Derived.Test.YtmghcelohnlceaaPoolLaw
import Derived.Test.YtmghcelohnlceaaSlotTab
import Derived.Test.YtmghcelohnlceaaRefArena
import Derived.Test.YtmghcelohnlceaaHyc
namespace Go.Proofs.Ytmghcelohnlceaa
open Go Go.Hx
set_option maxRecDepth 8000


/-! Heads. -/
theorem shl32 (x : Int) : x * 2 ^ (min (32 : Int).toNat IntKind.u64.bits) = x * 4294967296 := by rw [show (2 : Int) ^ (min (32 : Int).toNat IntKind.u64.bits) = 4294967296 from by decide]
theorem headV_eq {t b : Int} (h0 : 0 ≤ t) (h1 : t < 4294967296) : IntKind.u64.wrap (IntKind.u64.wrap t * 2 ^ (min (32 : Int).toNat IntKind.u64.bits)) = t * 4294967296 ∧ IntKind.u64.wrap (IntKind.u32.wrap b) = b % 4294967296 := by
  refine ⟨?_, ?_⟩
  · rw [wu64 (n := t) (by omega) (by omega), shl32, wu64 (by omega) (by omega)]
  · rw [wrap_u32]; have := u32_bd b; rw [wu64 (by omega) (by omega)]; rfl
theorem hMake_fn {t b : Int} (h0 : 0 ≤ t) (h1 : t < 4294967296) : Gives Try.prog 94 [.int .u32 t, .int .i64 b] [] (Is (.int .u64 (t * 4294967296 + b % 4294967296)) []) := by
  refine gives_x hXS1 (fn := Try.f94) rfl rfl rfl rfl fun ρ w0 => ?_
  refine sx hXS1 [] 200 rfl (by simp [conjP]) ?_
  refine ss_end hXS1 [] rfl rfl trivial rfl rfl rfl rfl ⟨rfl, ?_⟩ trivial (by (repeat' (first | exact rfl | exact trivial | exact sim_refl _ | refine And.intro ?_ ?_))) trivial
  obtain ⟨e1, e2⟩ := headV_eq (b := b) h0 h1
  rw [e1, e2, or_hi h0 h1 (by omega) (by omega)]
def hMakeS : List SV → Option (List Prop × SV)
  | [.int .u32 t, .int .i64 b] => some ([0 ≤ t, t < 4294967296], .int .u64 (t * 4294967296 + b % 4294967296))
  | _ => none
theorem hMakeS_ok : PureOk 94 hMakeS := by
  intro args ob V hs ho
  unfold hMakeS at hs
  split at hs
  · simp only [Option.some.injEq, Prod.mk.injEq] at hs
    obtain ⟨rfl, rfl⟩ := hs
    have o1 := ho _ (List.mem_cons_self ..)
    have o2 := ho _ (List.mem_cons_of_mem _ (List.mem_cons_self ..))
    exact ⟨rfl, rfl, hMake_fn o1 o2⟩
  · simp at hs
theorem rhMake_fn {t b : Int} (h0 : 0 ≤ t) (h1 : t < 4294967296) : Gives Try.prog 80 [.int .u32 t, .int .i64 b] [] (Is (.int .u64 (t * 4294967296 + b % 4294967296)) []) := by
  refine gives_x hXS1 (fn := Try.f80) rfl rfl rfl rfl fun ρ w0 => ?_
  refine sx hXS1 [] 200 rfl (by simp [conjP]) ?_
  refine ss_end hXS1 [] rfl rfl trivial rfl rfl rfl rfl ⟨rfl, ?_⟩ trivial (by (repeat' (first | exact rfl | exact trivial | exact sim_refl _ | refine And.intro ?_ ?_))) trivial
  obtain ⟨e1, e2⟩ := headV_eq (b := b) h0 h1
  rw [e1, e2, wu64 (by omega) (by omega)]
def rhMakeS : List SV → Option (List Prop × SV)
  | [.int .u32 t, .int .i64 b] => some ([0 ≤ t, t < 4294967296], .int .u64 (t * 4294967296 + b % 4294967296))
  | _ => none
theorem rhMakeS_ok : PureOk 80 rhMakeS := by
  intro args ob V hs ho
  unfold rhMakeS at hs
  split at hs
  · simp only [Option.some.injEq, Prod.mk.injEq] at hs
    obtain ⟨rfl, rfl⟩ := hs
    have o1 := ho _ (List.mem_cons_self ..)
    have o2 := ho _ (List.mem_cons_of_mem _ (List.mem_cons_self ..))
    exact ⟨rfl, rfl, rhMake_fn o1 o2⟩
  · simp at hs
theorem hBlock_fn {w : Int} (h0 : 0 ≤ w) (h1 : w < 18446744073709551616) : Gives Try.prog 32 [.int .u64 w] [] (Is (.int .i64 (w % 4294967296)) []) := by
  refine gives_x hXS1 (fn := Try.f32) rfl rfl rfl rfl fun ρ w0 => ?_
  refine sx hXS1 [] 200 rfl (by simp [conjP]; omega) ?_
  refine ss_end hXS1 [] rfl rfl trivial rfl rfl rfl rfl ⟨rfl, ?_⟩ trivial (by (repeat' (first | exact rfl | exact trivial | exact sim_refl _ | refine And.intro ?_ ?_))) trivial
  rw [getV_lo, wi64 (by omega) (by omega)]
def hBlockS : List SV → Option (List Prop × SV)
  | [.int .u64 w] => some ([0 ≤ w, w < 18446744073709551616], .int .i64 (w % 4294967296))
  | _ => none
theorem hBlockS_ok : PureOk 32 hBlockS := by
  intro args ob V hs ho
  unfold hBlockS at hs
  split at hs
  · simp only [Option.some.injEq, Prod.mk.injEq] at hs
    obtain ⟨rfl, rfl⟩ := hs
    have o1 := ho _ (List.mem_cons_self ..)
    have o2 := ho _ (List.mem_cons_of_mem _ (List.mem_cons_self ..))
    exact ⟨rfl, rfl, hBlock_fn o1 o2⟩
  · simp at hs
theorem hTag_fn {w : Int} (h0 : 0 ≤ w) (h1 : w < 18446744073709551616) : Gives Try.prog 33 [.int .u64 w] [] (Is (.int .u32 (w / 4294967296)) []) := by
  refine gives_x hXS1 (fn := Try.f33) rfl rfl rfl rfl fun ρ w0 => ?_
  refine sx hXS1 [] 200 rfl (by simp [conjP]; omega) ?_
  refine ss_end hXS1 [] rfl rfl trivial rfl rfl rfl rfl ⟨rfl, ?_⟩ trivial (by (repeat' (first | exact rfl | exact trivial | exact sim_refl _ | refine And.intro ?_ ?_))) trivial
  rw [getV_hi, wrap_u32, u32]; omega
def hTagS : List SV → Option (List Prop × SV)
  | [.int .u64 w] => some ([0 ≤ w, w < 18446744073709551616], .int .u32 (w / 4294967296))
  | _ => none
theorem hTagS_ok : PureOk 33 hTagS := by
  intro args ob V hs ho
  unfold hTagS at hs
  split at hs
  · simp only [Option.some.injEq, Prod.mk.injEq] at hs
    obtain ⟨rfl, rfl⟩ := hs
    have o1 := ho _ (List.mem_cons_self ..)
    have o2 := ho _ (List.mem_cons_of_mem _ (List.mem_cons_self ..))
    exact ⟨rfl, rfl, hTag_fn o1 o2⟩
  · simp at hs
def ctHd : Nat → Option Hx.Spec
  | 94 => some (pureS hMakeS)
  | 33 => some (pureS hTagS)
  | 80 => some (pureS rhMakeS)
  | 62 => some (pureS getS)
  | _ => none
theorem ctHd_ok : ∀ f s args H ob V L, ctHd f = some s → s args H = some (ob, V, L) → AllP ob → Gives Try.prog f args H (Is V L) := by
  intro f s args H ob V L h hs ho
  unfold ctHd at h
  split at h
  · simp at h; subst h; exact pureS_ok ⟨_, hTE⟩ (hMakeS_ok) hs ho
  · simp at h; subst h; exact pureS_ok ⟨_, hTE⟩ (hTagS_ok) hs ho
  · simp at h; subst h; exact pureS_ok ⟨_, hTE⟩ (rhMakeS_ok) hs ho
  · simp at h; subst h; exact pureS_ok ⟨_, hTE⟩ (getS_ok) hs ho
  · simp at h
noncomputable def XHd : Tabs := tabs tr ft xt (fun _ => none) ctHd 20
theorem hXHd : TOk Try.prog (XHd) := ⟨hTE, hFT, ctHd_ok, hXT, fun t ks h => by simp [XHd, tabs] at h, mixed⟩
theorem wrap_u32' (n : Int) : IntKind.u32.wrap n = n % 4294967296 := by simp [IntKind.wrap, IntKind.bits, IntKind.signed]
theorem hTurn_fn {w b : Int} (h0 : 0 ≤ w) (h1 : w < 18446744073709551616) : Gives Try.prog 92 [.int .u64 w, .int .i64 b] [] (Is (.int .u64 (turnV w b)) []) := by
  refine gives_x hXHd (fn := Try.f92) rfl rfl rfl rfl fun ρ w0 => ?_
  have e := wrap_u32' (w / 4294967296 + 1)
  refine sx hXHd [] 200 rfl (by simp [conjP, h0, h1, e]; omega) ?_
  refine ss_end hXHd [] rfl rfl trivial rfl rfl rfl rfl ⟨rfl, ?_⟩ trivial (by (repeat' (first | exact rfl | exact trivial | exact sim_refl _ | refine And.intro ?_ ?_))) trivial
  rw [e]; rfl
def hTurnS : List SV → Option (List Prop × SV)
  | [.int .u64 w, .int .i64 b] => some ([0 ≤ w, w < 18446744073709551616], .int .u64 (turnV w b))
  | _ => none
theorem hTurnS_ok : PureOk 92 hTurnS := by
  intro args ob V hs ho
  unfold hTurnS at hs
  split at hs
  · simp only [Option.some.injEq, Prod.mk.injEq] at hs
    obtain ⟨rfl, rfl⟩ := hs
    have o1 := ho _ (List.mem_cons_self ..)
    have o2 := ho _ (List.mem_cons_of_mem _ (List.mem_cons_self ..))
    exact ⟨rfl, rfl, hTurn_fn o1 o2⟩
  · simp at hs
theorem rhTurn_fn {w b : Int} (_h0 : 0 ≤ w) (_h1 : w < 18446744073709551616) : Gives Try.prog 60 [.int .u64 w, .int .i64 b] [] (Is (.int .u64 (turnV w b)) []) := by
  refine gives_x hXHd (fn := Try.f60) rfl rfl rfl rfl fun ρ w0 => ?_
  have e := wrap_u32' (w / 4294967296 + 1)
  have p : w.fdiv (2 ^ (min (32 : Int).toNat IntKind.u64.bits)) = w / 4294967296 := by rw [show (2 : Int) ^ (min (32 : Int).toNat IntKind.u64.bits) = 4294967296 from by decide, Int.fdiv_eq_ediv_of_nonneg _ (by decide)]
  have e2 : IntKind.u32.wrap (IntKind.u32.wrap (w / 4294967296) + 1) = (w / 4294967296 + 1) % 4294967296 := by rw [wrap_u32', wrap_u32']; omega
  have p' : w.fdiv (2 ^ (min 32 IntKind.u64.bits)) = w / 4294967296 := p
  refine sx hXHd [] 200 rfl (by simp [conjP, p', e2] <;> omega) ?_
  refine ss_end hXHd [] rfl rfl trivial rfl rfl rfl rfl ⟨rfl, ?_⟩ trivial (by (repeat' (first | exact rfl | exact trivial | exact sim_refl _ | refine And.intro ?_ ?_))) trivial
  rw [p, e2]; rfl
def rhTurnS : List SV → Option (List Prop × SV)
  | [.int .u64 w, .int .i64 b] => some ([0 ≤ w, w < 18446744073709551616], .int .u64 (turnV w b))
  | _ => none
theorem rhTurnS_ok : PureOk 60 rhTurnS := by
  intro args ob V hs ho
  unfold rhTurnS at hs
  split at hs
  · simp only [Option.some.injEq, Prod.mk.injEq] at hs
    obtain ⟨rfl, rfl⟩ := hs
    have o1 := ho _ (List.mem_cons_self ..)
    have o2 := ho _ (List.mem_cons_of_mem _ (List.mem_cons_self ..))
    exact ⟨rfl, rfl, rhTurn_fn o1 o2⟩
  · simp at hs
theorem pHead_fn {c : Int} (h0 : 0 ≤ c) (h1 : c ≤ 1) : Gives Try.prog 40 [.int .i64 c] [] (Is (.int .i64 (3 + c)) []) := by
  refine gives_x hXS1 (fn := Try.f40) rfl rfl rfl rfl fun ρ w0 => ?_
  refine sx hXS1 [] 400 rfl (by (simp [-List.getD_eq_getElem?_getD, -List.length_eq_zero_iff, conjP] <;> (first | omega | ((repeat' (refine And.intro ?_ ?_)) <;> (first | omega | exact decide_eq_false (by omega) | exact decide_eq_true (by omega)))))) ?_
  refine sx hXS1 [.F] 400 rfl (by (simp [-List.getD_eq_getElem?_getD, -List.length_eq_zero_iff, conjP, addOP, h0] <;> (first | omega | ((repeat' (refine And.intro ?_ ?_)) <;> (first | omega | exact decide_eq_false (by omega) | exact decide_eq_true (by omega)))))) ?_
  refine sx hXS1 [.F] 400 rfl (by (simp [-List.getD_eq_getElem?_getD, -List.length_eq_zero_iff, conjP, addOP, h1] <;> (first | omega | ((repeat' (refine And.intro ?_ ?_)) <;> (first | omega | exact decide_eq_false (by omega) | exact decide_eq_true (by omega)))))) ?_
  (exact ss_end hXS1 [] rfl rfl trivial rfl rfl rfl rfl ⟨rfl, wi64 (by omega) (by omega)⟩ trivial (by (repeat' (first | exact rfl | exact trivial | exact sim_refl _ | refine And.intro ?_ ?_))) trivial)
def pHeadS : List SV → Option (List Prop × SV)
  | [.int .i64 c] => some ([0 ≤ c, c ≤ 1], .int .i64 (3 + c))
  | _ => none
theorem pHeadS_ok : PureOk 40 pHeadS := by
  intro args ob V hs ho
  unfold pHeadS at hs
  split at hs
  · simp only [Option.some.injEq, Prod.mk.injEq] at hs
    obtain ⟨rfl, rfl⟩ := hs
    have o1 := ho _ (List.mem_cons_self ..)
    have o2 := ho _ (List.mem_cons_of_mem _ (List.mem_cons_self ..))
    exact ⟨rfl, rfl, pHead_fn o1 o2⟩
  · simp at hs
def ctPo0 : Nat → Option Hx.Spec
  | 63 => some (pureS rightS)
  | 48 => some (pureS rightS)
  | 42 => some (pureS (placeS classF))
  | 43 => some (pureS (placeS blockF))
  | 50 => some (pureS (placeS classF))
  | 51 => some (pureS (placeS blockF))
  | 32 => some (pureS hBlockS)
  | 92 => some (pureS hTurnS)
  | 60 => some (pureS rhTurnS)
  | 40 => some (pureS pHeadS)
  | 85 => some (arLoadS)
  | 38 => some (arStoreS)
  | 91 => some (arSwapS)
  | _ => none
theorem ctPo0_ok : ∀ f s args H ob V L, ctPo0 f = some s → s args H = some (ob, V, L) → AllP ob → Gives Try.prog f args H (Is V L) := by
  intro f s args H ob V L h hs ho
  unfold ctPo0 at h
  split at h
  · simp at h; subst h; exact pureS_ok ⟨_, hTE⟩ (rightS_ok right63) hs ho
  · simp at h; subst h; exact pureS_ok ⟨_, hTE⟩ (rightS_ok right48) hs ho
  · simp at h; subst h; exact pureS_ok ⟨_, hTE⟩ (placeS_ok (v := classF) class_fn) hs ho
  · simp at h; subst h; exact pureS_ok ⟨_, hTE⟩ (placeS_ok (v := blockF) block_fn) hs ho
  · simp at h; subst h; exact pureS_ok ⟨_, hTE⟩ (placeS_ok (v := classF) rclass_fn) hs ho
  · simp at h; subst h; exact pureS_ok ⟨_, hTE⟩ (placeS_ok (v := blockF) rblock_fn) hs ho
  · simp at h; subst h; exact pureS_ok ⟨_, hTE⟩ (hBlockS_ok) hs ho
  · simp at h; subst h; exact pureS_ok ⟨_, hTE⟩ (hTurnS_ok) hs ho
  · simp at h; subst h; exact pureS_ok ⟨_, hTE⟩ (rhTurnS_ok) hs ho
  · simp at h; subst h; exact pureS_ok ⟨_, hTE⟩ (pHeadS_ok) hs ho
  · simp at h; subst h; exact arLoadS_ok hs ho
  · simp at h; subst h; exact arStoreS_ok hs ho
  · simp at h; subst h; exact arSwapS_ok hs ho
  · simp at h
noncomputable def XPo0 : Tabs := tabs tr ft xt (fun _ => none) ctPo0 0
theorem hXPo0 : TOk Try.prog (XPo0) := ⟨hTE, hFT, ctPo0_ok, hXT, fun t ks h => by simp [XPo0, tabs] at h, mixed⟩

/-! What runs are, in a heap. -/
abbrev c9P (A B : Int) : List SV := [.int .i64 1, .int .i64 4, .int .i64 1, .int .i64 2, .int .i64 4, .int .i64 A, .int .i64 6, .int .i64 B, .int .i64 2]
def tkO (A B : Int) (nx : SV) (c s b f : Int) : SO := .cells [.int .i64 1, .int .i64 4, .int .i64 1, .int .i64 2, .int .i64 4, .int .i64 A, .int .i64 6, .int .i64 B, .int .i64 2, .int .i64 (3 + c), .int .u64 s, nx, .int .i64 c, .int .i64 b, .int .i64 f] 93
def gvO (A B : Int) (nx : SV) (b s : Int) : SO := .cells [.int .i64 1, .int .i64 4, .int .i64 1, .int .i64 2, .int .i64 4, .int .i64 A, .int .i64 6, .int .i64 B, .int .i64 2, .int .i64 (3 + classV A B b), .int .u64 s, nx, .int .i64 b] 95
def phO (A B : Int) (h : Nat) : Ph → SO
  | .idle => .cells [] 0
  | .t1 c s b f => tkO A B (.func (.func 55) [.ptr h 0] []) c s b f
  | .t2 c s b f => tkO A B (.func (.func 77) [.ptr h 0] []) c s b f
  | .t3 c s b f => tkO A B (.func (.func 87) [.ptr h 0] []) c s b f
  | .g1 b s => gvO A B (.func (.func 52) [.ptr h 0] []) b s
  | .g2 b s => gvO A B (.func (.func 75) [.ptr h 0] []) b s
  | .g3 b s => gvO A B (.func (.func 86) [.ptr h 0] []) b s
theorem ren_phO {σ : Nat → Nat} {A B : Int} {h : Nat} : ∀ {p : Ph}, (phO A B h p).ren σ = phO A B (σ h) p
  | .idle | .t1 .. | .t2 .. | .t3 .. | .g1 .. | .g2 .. | .g3 .. => rfl
/-- What holds of an arena's words. -/
structure WdP (A B : Int) (s : Ar) : Prop where
  hr : rightB 1 4 1 2 4 A 6 B 2 = true
  len : s.W.length = (szP A B).toNat
  st0 : 0 ≤ s.st
  st1 : s.st < 1000000
  bd : ∀ j, 0 ≤ s.W.getD j 0 ∧ s.W.getD j 0 < 18446744073709551616
section
variable {A B : Int} {s : Ar} {c v b f : Int} (hw : WdP A B s)
include hw
theorem WdP.AB : 0 ≤ A ∧ A ≤ 12 ∧ 0 ≤ B ∧ B ≤ 12 := by have := right_iff.1 hw.hr; omega
theorem WdP.ln : 16 ≤ s.W.length ∧ (s.W.length : Int) = szP A B := by
  have h := hw.AB
  have e := szP_eq A B
  rw [hw.len]; omega
section
variable (hc : 0 ≤ c ∧ c ≤ 1)
include hc
set_option maxHeartbeats 4000000 in
theorem tk1y_fn (h : classV A B ((s.W.getD (3 + c).toNat 0) % 4294967296) = c) : Gives Try.prog 13 [.ptr 0 0, .ptr 1 0] [.obj (phO A B 0 (.t1 c v b f)), AO 2 s, WO s.W] (Is .ff [.obj (phO A B 0 (.t2 c (s.W.getD (3 + c).toNat 0) ((s.W.getD (3 + c).toNat 0) % 4294967296) f)), AO 2 (ldA s (3 + c)), WO (ldA s (3 + c)).W]) := by
  obtain ⟨W, st, kd, wd, vl, ch⟩ := s
  have hr := hw.hr
  have hl := hw.ln
  have hst0 := hw.st0
  have hst1 := hw.st1
  have hbd := hw.bd (3 + c).toNat
  dsimp only [Ar.W, Ar.st] at *
  refine gives_x hXPo0 (fn := Try.f13) rfl rfl rfl rfl fun ρ w => ?_
  dsimp only [phO, tkO, gvO]
  refine sx hXPo0 [] 4000 rfl (by (simp [-List.getD_eq_getElem?_getD, -List.length_eq_zero_iff, conjP, getH, HE.so, hr, hl, hbd] <;> (first | omega | ((repeat' (refine And.intro ?_ ?_)) <;> (first | omega | exact decide_eq_false (by omega) | exact decide_eq_true (by omega)))))) ?_
  refine sx hXPo0 [.F] 4000 rfl (by (simp [-List.getD_eq_getElem?_getD, -List.length_eq_zero_iff, conjP, addOP, classF, h] <;> (first | omega | ((repeat' (refine And.intro ?_ ?_)) <;> (first | omega | exact decide_eq_false (by omega) | exact decide_eq_true (by omega)))))) ?_
  (refine ss_end hXPo0 [0, 1, 2] rfl rfl trivial rfl rfl rfl rfl ?vv ?hh (by (repeat' (first | exact rfl | exact trivial | exact sim_refl _ | refine And.intro ?_ ?_))) (by (repeat' (first | exact rfl | exact trivial | exact sim_refl _ | refine And.intro ?_ ?_))); (case vv => first | ((repeat' (first | exact rfl | exact trivial | exact sim_refl _ | refine And.intro ?_ ?_)); done) | (simp [tupF, SV.ren, sim, simO0]; done)); (case hh => (repeat' (first | exact rfl | exact trivial | exact sim_refl _ | (simp; done) | refine And.intro ?_ ?_))))
set_option maxHeartbeats 4000000 in
theorem tk1n_fn (h : ¬ classV A B ((s.W.getD (3 + c).toNat 0) % 4294967296) = c) : Gives Try.prog 13 [.ptr 0 0, .ptr 1 0] [.obj (phO A B 0 (.t1 c v b f)), AO 2 s, WO s.W] (Is .tt [.obj (tkO A B .nilfunc c (s.W.getD (3 + c).toNat 0) 0 f), AO 2 (ldA s (3 + c)), WO (ldA s (3 + c)).W]) := by
  obtain ⟨W, st, kd, wd, vl, ch⟩ := s
  have hr := hw.hr
  have hl := hw.ln
  have hst0 := hw.st0
  have hst1 := hw.st1
  have hbd := hw.bd (3 + c).toNat
  dsimp only [Ar.W, Ar.st] at *
  refine gives_x hXPo0 (fn := Try.f13) rfl rfl rfl rfl fun ρ w => ?_
  dsimp only [phO, tkO, gvO]
  refine sx hXPo0 [] 4000 rfl (by (simp [-List.getD_eq_getElem?_getD, -List.length_eq_zero_iff, conjP, getH, HE.so, hr, hl, hbd] <;> (first | omega | ((repeat' (refine And.intro ?_ ?_)) <;> (first | omega | exact decide_eq_false (by omega) | exact decide_eq_true (by omega)))))) ?_
  refine sx hXPo0 [.T] 4000 rfl (by (simp [-List.getD_eq_getElem?_getD, -List.length_eq_zero_iff, conjP, addOP, classF, h] <;> (first | omega | ((repeat' (refine And.intro ?_ ?_)) <;> (first | omega | exact decide_eq_false (by omega) | exact decide_eq_true (by omega)))))) ?_
  (refine ss_end hXPo0 [0, 1, 2] rfl rfl trivial rfl rfl rfl rfl ?vv ?hh (by (repeat' (first | exact rfl | exact trivial | exact sim_refl _ | refine And.intro ?_ ?_))) (by (repeat' (first | exact rfl | exact trivial | exact sim_refl _ | refine And.intro ?_ ?_))); (case vv => first | ((repeat' (first | exact rfl | exact trivial | exact sim_refl _ | refine And.intro ?_ ?_)); done) | (simp [tupF, SV.ren, sim, simO0]; done)); (case hh => (repeat' (first | exact rfl | exact trivial | exact sim_refl _ | (simp; done) | refine And.intro ?_ ?_))))
set_option maxHeartbeats 4000000 in
theorem tk2_fn (h : classV A B b = c) : Gives Try.prog 13 [.ptr 0 0, .ptr 1 0] [.obj (phO A B 0 (.t2 c v b f)), AO 2 s, WO s.W] (Is .ff [.obj (phO A B 0 (.t3 c v b (s.W.getD (bkP A B b).toNat 0 % 4294967296))), AO 2 (ldA s (bkP A B b)), WO (ldA s (bkP A B b)).W]) := by
  obtain ⟨W, st, kd, wd, vl, ch⟩ := s
  have hr := hw.hr
  have hl := hw.ln
  have hst0 := hw.st0
  have hst1 := hw.st1
  have hb := cls_iff hc.1 h
  have hAB := hw.AB
  have hk : 0 ≤ blockV 1 4 1 4 A 6 B b ∧ blockV 1 4 1 4 A 6 B b < (W.length : Int) := by
    have q := bkP_range hAB.1 hAB.2.2.1 hb.1 hb.2.1
    have ql := hl.2
    exact ⟨Int.le_trans (by decide : (0 : Int) ≤ 16) q.1, by rw [ql]; exact q.2⟩
  have hbd := hw.bd (bkP A B b).toNat
  dsimp only [Ar.W, Ar.st] at *
  refine gives_x hXPo0 (fn := Try.f13) rfl rfl rfl rfl fun ρ w => ?_
  dsimp only [phO, tkO, gvO]
  refine sx hXPo0 [] 4000 rfl (by (simp [-List.getD_eq_getElem?_getD, -List.length_eq_zero_iff, conjP, hr, hl, hbd, hk, blockF] <;> (first | omega | ((repeat' (refine And.intro ?_ ?_)) <;> (first | omega | exact decide_eq_false (by omega) | exact decide_eq_true (by omega)))))) ?_
  (refine ss_end hXPo0 [0, 1, 2] rfl rfl trivial rfl rfl rfl rfl ?vv ?hh (by (repeat' (first | exact rfl | exact trivial | exact sim_refl _ | refine And.intro ?_ ?_))) (by (repeat' (first | exact rfl | exact trivial | exact sim_refl _ | refine And.intro ?_ ?_))); (case vv => first | ((repeat' (first | exact rfl | exact trivial | exact sim_refl _ | refine And.intro ?_ ?_)); done) | (simp [tupF, SV.ren, sim, simO0]; done)); (case hh => (repeat' (first | exact rfl | exact trivial | exact sim_refl _ | (simp; done) | refine And.intro ?_ ?_))))
set_option maxHeartbeats 4000000 in
theorem tk3y_fn (hv : 0 ≤ v ∧ v < 18446744073709551616) (h : (s.W.getD (3 + c).toNat 0) = v) : Gives Try.prog 13 [.ptr 0 0, .ptr 1 0] [.obj (phO A B 0 (.t3 c v b f)), AO 2 s, WO s.W] (Is .tt [.obj (tkO A B .nilfunc c v b f), AO 2 (swA s (3 + c) v (turnV v f)), WO (swA s (3 + c) v (turnV v f)).W]) := by
  obtain ⟨W, st, kd, wd, vl, ch⟩ := s
  have hr := hw.hr
  have hl := hw.ln
  have hst0 := hw.st0
  have hst1 := hw.st1
  dsimp only [Ar.W, Ar.st] at *
  refine gives_x hXPo0 (fn := Try.f13) rfl rfl rfl rfl fun ρ w => ?_
  dsimp only [phO, tkO, gvO]
  refine sx hXPo0 [] 4000 rfl (by (simp [-List.getD_eq_getElem?_getD, -List.length_eq_zero_iff, conjP, getH, HE.so, hl, hv] <;> (first | omega | ((repeat' (refine And.intro ?_ ?_)) <;> (first | omega | exact decide_eq_false (by omega) | exact decide_eq_true (by omega)))))) ?_
  refine sx hXPo0 [.T] 4000 rfl (by (simp [-List.getD_eq_getElem?_getD, -List.length_eq_zero_iff, conjP, addOP, h] <;> (first | omega | ((repeat' (refine And.intro ?_ ?_)) <;> (first | omega | exact decide_eq_false (by omega) | exact decide_eq_true (by omega)))))) ?_
  (refine ss_end hXPo0 [0, 1, 2] rfl rfl trivial rfl rfl rfl rfl ?vv ?hh (by (repeat' (first | exact rfl | exact trivial | exact sim_refl _ | refine And.intro ?_ ?_))) (by (repeat' (first | exact rfl | exact trivial | exact sim_refl _ | refine And.intro ?_ ?_))); (case vv => first | ((repeat' (first | exact rfl | exact trivial | exact sim_refl _ | refine And.intro ?_ ?_)); done) | (simp [tupF, SV.ren, sim, simO0]; done)); (case hh => (repeat' (first | exact rfl | exact trivial | exact sim_refl _ | (simp; done) | refine And.intro ?_ ?_))))
set_option maxHeartbeats 4000000 in
theorem tk3n_fn (hv : 0 ≤ v ∧ v < 18446744073709551616) (h : ¬ (s.W.getD (3 + c).toNat 0) = v) : Gives Try.prog 13 [.ptr 0 0, .ptr 1 0] [.obj (phO A B 0 (.t3 c v b f)), AO 2 s, WO s.W] (Is .ff [.obj (phO A B 0 (.t1 c v b f)), AO 2 (swA s (3 + c) v (turnV v f)), WO (swA s (3 + c) v (turnV v f)).W]) := by
  obtain ⟨W, st, kd, wd, vl, ch⟩ := s
  have hr := hw.hr
  have hl := hw.ln
  have hst0 := hw.st0
  have hst1 := hw.st1
  dsimp only [Ar.W, Ar.st] at *
  refine gives_x hXPo0 (fn := Try.f13) rfl rfl rfl rfl fun ρ w => ?_
  dsimp only [phO, tkO, gvO]
  refine sx hXPo0 [] 4000 rfl (by (simp [-List.getD_eq_getElem?_getD, -List.length_eq_zero_iff, conjP, getH, HE.so, hl, hv] <;> (first | omega | ((repeat' (refine And.intro ?_ ?_)) <;> (first | omega | exact decide_eq_false (by omega) | exact decide_eq_true (by omega)))))) ?_
  refine sx hXPo0 [.F] 4000 rfl (by (simp [-List.getD_eq_getElem?_getD, -List.length_eq_zero_iff, conjP, addOP, h] <;> (first | omega | ((repeat' (refine And.intro ?_ ?_)) <;> (first | omega | exact decide_eq_false (by omega) | exact decide_eq_true (by omega)))))) ?_
  (refine ss_end hXPo0 [0, 1, 2] rfl rfl trivial rfl rfl rfl rfl ?vv ?hh (by (repeat' (first | exact rfl | exact trivial | exact sim_refl _ | refine And.intro ?_ ?_))) (by (repeat' (first | exact rfl | exact trivial | exact sim_refl _ | refine And.intro ?_ ?_))); (case vv => first | ((repeat' (first | exact rfl | exact trivial | exact sim_refl _ | refine And.intro ?_ ?_)); done) | (simp [tupF, SV.ren, sim, simO0]; done)); (case hh => (repeat' (first | exact rfl | exact trivial | exact sim_refl _ | (simp; done) | refine And.intro ?_ ?_))))
end
section
variable (hb : 1 ≤ b ∧ b ≤ A + B)
include hb
set_option maxHeartbeats 4000000 in
theorem gv1_fn  : Gives Try.prog 15 [.ptr 0 0, .ptr 1 0] [.obj (phO A B 0 (.g1 b v)), AO 2 s, WO s.W] (Is .ff [.obj (phO A B 0 (.g2 b (s.W.getD (3 + classV A B b).toNat 0))), AO 2 (ldA s (3 + classV A B b)), WO (ldA s (3 + classV A B b)).W]) := by
  obtain ⟨W, st, kd, wd, vl, ch⟩ := s
  have hr := hw.hr
  have hl := hw.ln
  have hst0 := hw.st0
  have hst1 := hw.st1
  have hcl := cls_bd hb.1 hb.2
  have hAB := hw.AB
  have hk : 0 ≤ blockV 1 4 1 4 A 6 B b ∧ blockV 1 4 1 4 A 6 B b < (W.length : Int) := by
    have q := bkP_range hAB.1 hAB.2.2.1 hb.1 hb.2
    have ql := hl.2
    exact ⟨Int.le_trans (by decide : (0 : Int) ≤ 16) q.1, by rw [ql]; exact q.2⟩
  have hbd := hw.bd (3 + classV A B b).toNat
  dsimp only [Ar.W, Ar.st] at *
  refine gives_x hXPo0 (fn := Try.f15) rfl rfl rfl rfl fun ρ w => ?_
  dsimp only [phO, tkO, gvO]
  refine sx hXPo0 [] 4000 rfl (by (simp [-List.getD_eq_getElem?_getD, -List.length_eq_zero_iff, conjP, hl] <;> (first | omega | ((repeat' (refine And.intro ?_ ?_)) <;> (first | omega | exact decide_eq_false (by omega) | exact decide_eq_true (by omega)))))) ?_
  (refine ss_end hXPo0 [0, 1, 2] rfl rfl trivial rfl rfl rfl rfl ?vv ?hh (by (repeat' (first | exact rfl | exact trivial | exact sim_refl _ | refine And.intro ?_ ?_))) (by (repeat' (first | exact rfl | exact trivial | exact sim_refl _ | refine And.intro ?_ ?_))); (case vv => first | ((repeat' (first | exact rfl | exact trivial | exact sim_refl _ | refine And.intro ?_ ?_)); done) | (simp [tupF, SV.ren, sim, simO0]; done)); (case hh => (repeat' (first | exact rfl | exact trivial | exact sim_refl _ | (simp; done) | refine And.intro ?_ ?_))))
set_option maxHeartbeats 4000000 in
theorem gv2_fn (hv : 0 ≤ v ∧ v < 18446744073709551616) : Gives Try.prog 15 [.ptr 0 0, .ptr 1 0] [.obj (phO A B 0 (.g2 b v)), AO 2 s, WO s.W] (Is .ff [.obj (phO A B 0 (.g3 b v)), AO 2 (stA s (bkP A B b) (v % 4294967296)), WO (stA s (bkP A B b) (v % 4294967296)).W]) := by
  obtain ⟨W, st, kd, wd, vl, ch⟩ := s
  have hr := hw.hr
  have hl := hw.ln
  have hst0 := hw.st0
  have hst1 := hw.st1
  have hcl := cls_bd hb.1 hb.2
  have hAB := hw.AB
  have hk : 0 ≤ blockV 1 4 1 4 A 6 B b ∧ blockV 1 4 1 4 A 6 B b < (W.length : Int) := by
    have q := bkP_range hAB.1 hAB.2.2.1 hb.1 hb.2
    have ql := hl.2
    exact ⟨Int.le_trans (by decide : (0 : Int) ≤ 16) q.1, by rw [ql]; exact q.2⟩
  have hbd := hw.bd (3 + classV A B b).toNat
  have ew : IntKind.u64.wrap (v % 4294967296) = v % 4294967296 := wu64 (by omega) (by omega)
  dsimp only [Ar.W, Ar.st] at *
  refine gives_x hXPo0 (fn := Try.f15) rfl rfl rfl rfl fun ρ w => ?_
  dsimp only [phO, tkO, gvO]
  refine sx hXPo0 [] 4000 rfl (by (simp [-List.getD_eq_getElem?_getD, -List.length_eq_zero_iff, conjP, getH, HE.so, hr, hl, hk, hv, blockF] <;> (first | omega | ((repeat' (refine And.intro ?_ ?_)) <;> (first | omega | exact decide_eq_false (by omega) | exact decide_eq_true (by omega)))))) ?_
  (refine ss_end hXPo0 [0, 1, 2] rfl rfl trivial rfl rfl rfl rfl ?vv ?hh (by (repeat' (first | exact rfl | exact trivial | exact sim_refl _ | refine And.intro ?_ ?_))) (by (repeat' (first | exact rfl | exact trivial | exact sim_refl _ | refine And.intro ?_ ?_))); (case vv => first | ((repeat' (first | exact rfl | exact trivial | exact sim_refl _ | refine And.intro ?_ ?_)); done) | (simp [tupF, SV.ren, sim, simO0]; done)); (case hh => simp only [stA, ew]; (repeat' (first | exact rfl | exact trivial | exact sim_refl _ | (simp; done) | refine And.intro ?_ ?_))))
set_option maxHeartbeats 4000000 in
theorem gv3y_fn (hv : 0 ≤ v ∧ v < 18446744073709551616) (h : (s.W.getD (3 + classV A B b).toNat 0) = v) : Gives Try.prog 15 [.ptr 0 0, .ptr 1 0] [.obj (phO A B 0 (.g3 b v)), AO 2 s, WO s.W] (Is .tt [.obj (gvO A B .nilfunc b v), AO 2 (swA s (3 + classV A B b) v (turnV v b)), WO (swA s (3 + classV A B b) v (turnV v b)).W]) := by
  obtain ⟨W, st, kd, wd, vl, ch⟩ := s
  have hr := hw.hr
  have hl := hw.ln
  have hst0 := hw.st0
  have hst1 := hw.st1
  have hcl := cls_bd hb.1 hb.2
  have hAB := hw.AB
  have hk : 0 ≤ blockV 1 4 1 4 A 6 B b ∧ blockV 1 4 1 4 A 6 B b < (W.length : Int) := by
    have q := bkP_range hAB.1 hAB.2.2.1 hb.1 hb.2
    have ql := hl.2
    exact ⟨Int.le_trans (by decide : (0 : Int) ≤ 16) q.1, by rw [ql]; exact q.2⟩
  have hbd := hw.bd (3 + classV A B b).toNat
  dsimp only [Ar.W, Ar.st] at *
  refine gives_x hXPo0 (fn := Try.f15) rfl rfl rfl rfl fun ρ w => ?_
  dsimp only [phO, tkO, gvO]
  refine sx hXPo0 [] 4000 rfl (by (simp [-List.getD_eq_getElem?_getD, -List.length_eq_zero_iff, conjP, getH, HE.so, hl, hv] <;> (first | omega | ((repeat' (refine And.intro ?_ ?_)) <;> (first | omega | exact decide_eq_false (by omega) | exact decide_eq_true (by omega)))))) ?_
  refine sx hXPo0 [.T] 4000 rfl (by (simp [-List.getD_eq_getElem?_getD, -List.length_eq_zero_iff, conjP, addOP, h] <;> (first | omega | ((repeat' (refine And.intro ?_ ?_)) <;> (first | omega | exact decide_eq_false (by omega) | exact decide_eq_true (by omega)))))) ?_
  (refine ss_end hXPo0 [0, 1, 2] rfl rfl trivial rfl rfl rfl rfl ?vv ?hh (by (repeat' (first | exact rfl | exact trivial | exact sim_refl _ | refine And.intro ?_ ?_))) (by (repeat' (first | exact rfl | exact trivial | exact sim_refl _ | refine And.intro ?_ ?_))); (case vv => first | ((repeat' (first | exact rfl | exact trivial | exact sim_refl _ | refine And.intro ?_ ?_)); done) | (simp [tupF, SV.ren, sim, simO0]; done)); (case hh => (repeat' (first | exact rfl | exact trivial | exact sim_refl _ | (simp; done) | refine And.intro ?_ ?_))))
set_option maxHeartbeats 4000000 in
theorem gv3n_fn (hv : 0 ≤ v ∧ v < 18446744073709551616) (h : ¬ (s.W.getD (3 + classV A B b).toNat 0) = v) : Gives Try.prog 15 [.ptr 0 0, .ptr 1 0] [.obj (phO A B 0 (.g3 b v)), AO 2 s, WO s.W] (Is .ff [.obj (phO A B 0 (.g1 b v)), AO 2 (swA s (3 + classV A B b) v (turnV v b)), WO (swA s (3 + classV A B b) v (turnV v b)).W]) := by
  obtain ⟨W, st, kd, wd, vl, ch⟩ := s
  have hr := hw.hr
  have hl := hw.ln
  have hst0 := hw.st0
  have hst1 := hw.st1
  have hcl := cls_bd hb.1 hb.2
  have hAB := hw.AB
  have hk : 0 ≤ blockV 1 4 1 4 A 6 B b ∧ blockV 1 4 1 4 A 6 B b < (W.length : Int) := by
    have q := bkP_range hAB.1 hAB.2.2.1 hb.1 hb.2
    have ql := hl.2
    exact ⟨Int.le_trans (by decide : (0 : Int) ≤ 16) q.1, by rw [ql]; exact q.2⟩
  have hbd := hw.bd (3 + classV A B b).toNat
  dsimp only [Ar.W, Ar.st] at *
  refine gives_x hXPo0 (fn := Try.f15) rfl rfl rfl rfl fun ρ w => ?_
  dsimp only [phO, tkO, gvO]
  refine sx hXPo0 [] 4000 rfl (by (simp [-List.getD_eq_getElem?_getD, -List.length_eq_zero_iff, conjP, getH, HE.so, hl, hv] <;> (first | omega | ((repeat' (refine And.intro ?_ ?_)) <;> (first | omega | exact decide_eq_false (by omega) | exact decide_eq_true (by omega)))))) ?_
  refine sx hXPo0 [.F] 4000 rfl (by (simp [-List.getD_eq_getElem?_getD, -List.length_eq_zero_iff, conjP, addOP, h] <;> (first | omega | ((repeat' (refine And.intro ?_ ?_)) <;> (first | omega | exact decide_eq_false (by omega) | exact decide_eq_true (by omega)))))) ?_
  (refine ss_end hXPo0 [0, 1, 2] rfl rfl trivial rfl rfl rfl rfl ?vv ?hh (by (repeat' (first | exact rfl | exact trivial | exact sim_refl _ | refine And.intro ?_ ?_))) (by (repeat' (first | exact rfl | exact trivial | exact sim_refl _ | refine And.intro ?_ ?_))); (case vv => first | ((repeat' (first | exact rfl | exact trivial | exact sim_refl _ | refine And.intro ?_ ?_)); done) | (simp [tupF, SV.ren, sim, simO0]; done)); (case hh => (repeat' (first | exact rfl | exact trivial | exact sim_refl _ | (simp; done) | refine And.intro ?_ ?_))))
end
end
end Go.Proofs.Ytmghcelohnlceaa
