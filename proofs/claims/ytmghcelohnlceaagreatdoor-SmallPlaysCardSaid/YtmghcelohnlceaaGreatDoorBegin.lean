/- A client begins, if it does nothing. -/
import Derived.Test.YtmghcelohnlceaaGreatDoorWho
namespace Go.Proofs.YtmghcelohnlceaaGreatDoor
open Go Go.Hx
set_option maxRecDepth 8000
/-- The document's runs. -/
abbrev rwO (R ep at' i tr : Int) (hl n : Nat) (sn e : Int) (hd : Bool) (cm : Int) : SO := .cells [.int .i64 1, .int .i64 4, .int .i64 1, .int .i64 4, .int .i64 4, .int .i64 1, .int .i64 6, .int .i64 0, .int .i64 R, .int .i64 0, .int .i64 ep, .int .i64 at', .int .i64 i, .int .i64 tr, .slice hl 0 n n, .int .u64 sn, .int .i64 e, .bool hd, .int .i64 cm] 77
abbrev rrO (R ep at' tr : Int) (ws : SV) (sn e cm : Int) : SO := .cells [.int .i64 1, .int .i64 4, .int .i64 1, .int .i64 4, .int .i64 4, .int .i64 1, .int .i64 6, .int .i64 0, .int .i64 R, .int .i64 0, .int .i64 ep, .int .i64 at', .int .i64 tr, ws, .int .u64 sn, .int .i64 e, .int .i64 cm] 79
theorem a3_cases (m : Int) : a3 m = 0 ∨ a3 m = 1 ∨ a3 m = 2 ∨ a3 m = 3 := by
  have := and3 m
  unfold a3
  omega
def ctSh : Nat → Option Hx.Spec
  | 22 => some (pureS ctlKS)
  | 41 => some (pureS ctlKS)
  | 91 => some (pureS rightS)
  | 36 => some (pureS runpkS)
  | _ => none
theorem ctSh_ok : ∀ f s args H ob V L, ctSh f = some s → s args H = some (ob, V, L) → AllP ob → Gives Tryz.prog f args H (Is V L) := by
  intro f s args H ob V L h hs ho
  unfold ctSh at h
  split at h
  · simp at h; subst h; exact pureS_ok ⟨_, hTE⟩ (ctlKS_ok) hs ho
  · simp at h; subst h; exact pureS_ok ⟨_, hTE⟩ (rctlKS_ok) hs ho
  · simp at h; subst h; exact pureS_ok ⟨_, hTE⟩ (rightS_ok right91) hs ho
  · simp at h; subst h; exact pureS_ok ⟨_, hTE⟩ (runpkS_ok) hs ho
  · simp at h
noncomputable def XSh : Tabs := tabs tr ft xt (fun _ => none) ctSh 20
theorem hXSh : TOk Tryz.prog (XSh) := ⟨hTE, hFT, ctSh_ok, hXT, fun t ks h => by simp [XSh, tabs] at h, mixed⟩
def ctSi : Nat → Option Hx.Spec
  | 22 => some (pureS ctlKS)
  | 41 => some (pureS ctlKS)
  | 91 => some (pureS rightS)
  | 36 => some (pureS runpkS)
  | _ => none
theorem ctSi_ok : ∀ f s args H ob V L, ctSi f = some s → s args H = some (ob, V, L) → AllP ob → Gives Tryz.prog f args H (Is V L) := by
  intro f s args H ob V L h hs ho
  unfold ctSi at h
  split at h
  · simp at h; subst h; exact pureS_ok ⟨_, hTE⟩ (ctlKS_ok) hs ho
  · simp at h; subst h; exact pureS_ok ⟨_, hTE⟩ (rctlKS_ok) hs ho
  · simp at h; subst h; exact pureS_ok ⟨_, hTE⟩ (rightS_ok right91) hs ho
  · simp at h; subst h; exact pureS_ok ⟨_, hTE⟩ (runpkS_ok) hs ho
  · simp at h
noncomputable def XSi : Tabs := tabs tr ft xt (fun _ => none) ctSi 0
theorem hXSi : TOk Tryz.prog (XSi) := ⟨hTE, hFT, ctSi_ok, hXT, fun t ks h => by simp [XSi, tabs] at h, mixed⟩
/-- A row that is being filled. -/
def fillL (v : Int) (K j : Nat) : List Int := List.replicate j v ++ List.replicate (K - j) 0
theorem fillL_full {v : Int} {K : Nat} : fillL v K K = List.replicate K v := by simp [fillL]
theorem fillL_len {v : Int} {K j : Nat} (h : j ≤ K) : (fillL v K j).length = K := by simp [fillL]; omega
theorem fillL_set {v : Int} {K j : Nat} (h : j < K) : (fillL v K j).set j v = fillL v K (j + 1) := by
  unfold fillL
  rw [List.set_append_right _ _ (by simp), List.length_replicate, Nat.sub_self]
  obtain ⟨r, hr⟩ : ∃ r, K - j = r + 1 := ⟨K - j - 1, by omega⟩
  have hr2 : K - (j + 1) = r := by omega
  rw [hr, hr2, List.replicate_succ, List.set_cons_zero, List.replicate_succ', List.append_assoc]
  rfl
section
variable {R n stb kdb wdb vlb id m : Int} {chb : Bool} {W : List Int} {p q : Value}

theorem begB0_fn : Gives Tryz.prog 12 [.ptr 0 0, .int .i64 0, .int .i64 m] [.obj (xO R 1 2 3 n), .opq, .opq, .obj (kO 4 5 6 7), .obj (cqO (.ptr 8 0) .nilptr p q id), .opq, .opq, .opq, .opq] (Is (.tup []) [.obj (xO R 1 2 3 n), .opq, .opq, .obj (kO 4 5 6 7), .obj (cqO (.ptr 8 0) .nilptr p q id), .opq, .opq, .opq, .opq]) := by
  refine gives_x hXSh (fn := Tryz.f12) rfl rfl rfl rfl fun ρ w => ?_
  refine sx hXSh [] 4000 rfl (by (simp [-List.getD_eq_getElem?_getD, -List.length_eq_zero_iff, conjP])) ?_
  (exact ss_end hXSh [0, 1, 2, 3, 4, 5, 6, 7, 8] rfl rfl trivial rfl rfl rfl rfl (by (repeat' (first | exact rfl | exact trivial | exact sim_refl _ | refine And.intro ?_ ?_))) (by (repeat' (first | exact rfl | exact trivial | exact sim_refl _ | refine And.intro ?_ ?_))) (by (repeat' (first | exact rfl | exact trivial | exact sim_refl _ | refine And.intro ?_ ?_))) (by (repeat' (first | exact rfl | exact trivial | exact sim_refl _ | refine And.intro ?_ ?_))))
theorem begB1_fn : Gives Tryz.prog 12 [.ptr 0 0, .int .i64 1, .int .i64 m] [.obj (xO R 1 2 3 n), .opq, .opq, .obj (kO 4 5 6 7), .opq, .obj (cqO (.ptr 8 0) .nilptr p q id), .opq, .opq, .opq] (Is (.tup []) [.obj (xO R 1 2 3 n), .opq, .opq, .obj (kO 4 5 6 7), .opq, .obj (cqO (.ptr 8 0) .nilptr p q id), .opq, .opq, .opq]) := by
  refine gives_x hXSh (fn := Tryz.f12) rfl rfl rfl rfl fun ρ w => ?_
  refine sx hXSh [] 4000 rfl (by (simp [-List.getD_eq_getElem?_getD, -List.length_eq_zero_iff, conjP])) ?_
  (exact ss_end hXSh [0, 1, 2, 3, 4, 5, 6, 7, 8] rfl rfl trivial rfl rfl rfl rfl (by (repeat' (first | exact rfl | exact trivial | exact sim_refl _ | refine And.intro ?_ ?_))) (by (repeat' (first | exact rfl | exact trivial | exact sim_refl _ | refine And.intro ?_ ?_))) (by (repeat' (first | exact rfl | exact trivial | exact sim_refl _ | refine And.intro ?_ ?_))) (by (repeat' (first | exact rfl | exact trivial | exact sim_refl _ | refine And.intro ?_ ?_))))
theorem begB2_fn : Gives Tryz.prog 12 [.ptr 0 0, .int .i64 2, .int .i64 m] [.obj (xO R 1 2 3 n), .opq, .opq, .obj (kO 4 5 6 7), .opq, .opq, .obj (cqO .nilptr (.ptr 8 0) p q id), .opq, .opq] (Is (.tup []) [.obj (xO R 1 2 3 n), .opq, .opq, .obj (kO 4 5 6 7), .opq, .opq, .obj (cqO .nilptr (.ptr 8 0) p q id), .opq, .opq]) := by
  refine gives_x hXSh (fn := Tryz.f12) rfl rfl rfl rfl fun ρ w => ?_
  refine sx hXSh [] 4000 rfl (by (simp [-List.getD_eq_getElem?_getD, -List.length_eq_zero_iff, conjP])) ?_
  (exact ss_end hXSh [0, 1, 2, 3, 4, 5, 6, 7, 8] rfl rfl trivial rfl rfl rfl rfl (by (repeat' (first | exact rfl | exact trivial | exact sim_refl _ | refine And.intro ?_ ?_))) (by (repeat' (first | exact rfl | exact trivial | exact sim_refl _ | refine And.intro ?_ ?_))) (by (repeat' (first | exact rfl | exact trivial | exact sim_refl _ | refine And.intro ?_ ?_))) (by (repeat' (first | exact rfl | exact trivial | exact sim_refl _ | refine And.intro ?_ ?_))))
theorem begB3_fn : Gives Tryz.prog 12 [.ptr 0 0, .int .i64 3, .int .i64 m] [.obj (xO R 1 2 3 n), .opq, .opq, .obj (kO 4 5 6 7), .opq, .opq, .opq, .obj (cqO .nilptr (.ptr 8 0) p q id), .opq] (Is (.tup []) [.obj (xO R 1 2 3 n), .opq, .opq, .obj (kO 4 5 6 7), .opq, .opq, .opq, .obj (cqO .nilptr (.ptr 8 0) p q id), .opq]) := by
  refine gives_x hXSh (fn := Tryz.f12) rfl rfl rfl rfl fun ρ w => ?_
  refine sx hXSh [] 4000 rfl (by (simp [-List.getD_eq_getElem?_getD, -List.length_eq_zero_iff, conjP])) ?_
  (exact ss_end hXSh [0, 1, 2, 3, 4, 5, 6, 7, 8] rfl rfl trivial rfl rfl rfl rfl (by (repeat' (first | exact rfl | exact trivial | exact sim_refl _ | refine And.intro ?_ ?_))) (by (repeat' (first | exact rfl | exact trivial | exact sim_refl _ | refine And.intro ?_ ?_))) (by (repeat' (first | exact rfl | exact trivial | exact sim_refl _ | refine And.intro ?_ ?_))) (by (repeat' (first | exact rfl | exact trivial | exact sim_refl _ | refine And.intro ?_ ?_))))
variable (h1 : 1 ≤ R) (h2 : R ≤ 8) (hl : W.length = 21) (hw0 : 0 ≤ W.getD 7 0) (hw1 : W.getD 7 0 < 18446744073709551616)
include h1 h2 hl hw0 hw1
set_option maxHeartbeats 4000000 in
theorem begR20_fn : Gives Tryz.prog 12 [.ptr 0 0, .int .i64 2, .int .i64 m] [.obj (xO R 1 2 4 n), .opq, .obj (rbO (.slice 3 0 21 21) stb kdb wdb vlb chb), WO W, .obj (kO 5 6 7 8), .opq, .opq, .obj (cqO .nilptr .nilptr p q id), .opq] (Is (.tup []) [.obj (xO R 1 2 4 n), .opq, .obj (rbO (.slice 3 0 21 21) stb kdb wdb vlb chb), WO W, .obj (kO 5 6 7 8), .opq, .opq, .obj (.cells [.nilptr, .ptr 9 0, .raw p, .ptr 10 0, .int .u64 id] 47), .opq, .obj (rdO R (epW (W.getD 7 0)) 1 0 0 0 0 .niliface .nilslice), .obj (rrO R (epW (W.getD 7 0)) 1 0 .nilslice 0 0 0)]) := by
  have hr := csR h1 h2
  have h7 : 7 < W.length := by omega
  refine gives_x hXSh (fn := Tryz.f12) rfl rfl rfl rfl fun ρ w => ?_
  refine sx hXSh [] 4000 rfl (by (simp [-List.getD_eq_getElem?_getD, -List.length_eq_zero_iff, conjP])) ?_
  refine sx hXSh [.T] 4000 rfl (by (simp [-List.getD_eq_getElem?_getD, -List.length_eq_zero_iff, conjP, addOP])) ?_
  refine sx hXSh [.K, .K, .F] 4000 rfl (by (simp [-List.getD_eq_getElem?_getD, -List.length_eq_zero_iff, conjP, getH, HE.so, h1, h2, hl, hw0, hw1])) ?_
  refine sx hXSh [.F, .F, .F] 4000 rfl (by (simp [-List.getD_eq_getElem?_getD, -List.length_eq_zero_iff, conjP, getH, HE.so, h1, h2, hr, hl, hw0, hw1])) ?_
  (refine ss_end hXSh [0, 1, 2, 3, 4, 5, 6, 7, 8, 13, 15] rfl rfl trivial rfl rfl rfl rfl (by (repeat' (first | exact rfl | exact trivial | exact sim_refl _ | refine And.intro ?_ ?_))) ?hh (by (repeat' (first | exact rfl | exact trivial | exact sim_refl _ | refine And.intro ?_ ?_))) (by (repeat' (first | exact rfl | exact trivial | exact sim_refl _ | refine And.intro ?_ ?_))); (case hh => (repeat' (first | exact rfl | exact trivial | exact sim_refl _ | (simp; done) | refine And.intro ?_ ?_)); done))
set_option maxHeartbeats 4000000 in
theorem begR21_fn : Gives Tryz.prog 12 [.ptr 0 0, .int .i64 2, .int .i64 m] [.obj (xO R 1 2 4 n), .opq, .obj (rbO (.sbuf 3 1 0 21) stb kdb wdb vlb chb), wdE W, .obj (kO 5 6 7 8), .opq, .opq, .obj (cqO .nilptr .nilptr p q id), .opq] (Is (.tup []) [.obj (xO R 1 2 4 n), .opq, .obj (rbO (.sbuf 3 1 0 21) stb kdb wdb vlb chb), wdE W, .obj (kO 5 6 7 8), .opq, .opq, .obj (.cells [.nilptr, .ptr 9 0, .raw p, .ptr 10 0, .int .u64 id] 47), .opq, .obj (rdO R (epW (W.getD 7 0)) 1 0 0 0 0 .niliface .nilslice), .obj (rrO R (epW (W.getD 7 0)) 1 0 .nilslice 0 0 0)]) := by
  have hr := csR h1 h2
  have h7 : 7 < W.length := by omega
  refine gives_x hXSh (fn := Tryz.f12) rfl rfl rfl rfl fun ρ w => ?_
  refine sx hXSh [] 4000 rfl (by (simp [-List.getD_eq_getElem?_getD, -List.length_eq_zero_iff, conjP])) ?_
  refine sx hXSh [.T] 4000 rfl (by (simp [-List.getD_eq_getElem?_getD, -List.length_eq_zero_iff, conjP, addOP])) ?_
  refine sx hXSh [.K, .K, .F] 4000 rfl (by (simp [-List.getD_eq_getElem?_getD, -List.length_eq_zero_iff, conjP, getH, HE.so, h1, h2, hl, hw0, hw1, cellOff])) ?_
  refine sx hXSh [.F, .F, .F] 4000 rfl (by (simp [-List.getD_eq_getElem?_getD, -List.length_eq_zero_iff, conjP, getH, HE.so, h1, h2, hr, hl, hw0, hw1, cellOff])) ?_
  (refine ss_end hXSh [0, 1, 2, 3, 4, 5, 6, 7, 8, 13, 15] rfl rfl trivial rfl rfl rfl rfl (by (repeat' (first | exact rfl | exact trivial | exact sim_refl _ | refine And.intro ?_ ?_))) ?hh (by (repeat' (first | exact rfl | exact trivial | exact sim_refl _ | refine And.intro ?_ ?_))) (by (repeat' (first | exact rfl | exact trivial | exact sim_refl _ | refine And.intro ?_ ?_))); (case hh => (repeat' (first | exact rfl | exact trivial | exact sim_refl _ | (simp; done) | refine And.intro ?_ ?_)); done))
set_option maxHeartbeats 4000000 in
theorem begR30_fn : Gives Tryz.prog 12 [.ptr 0 0, .int .i64 3, .int .i64 m] [.obj (xO R 1 2 4 n), .opq, .obj (rbO (.slice 3 0 21 21) stb kdb wdb vlb chb), WO W, .obj (kO 5 6 7 8), .opq, .opq, .opq, .obj (cqO .nilptr .nilptr p q id)] (Is (.tup []) [.obj (xO R 1 2 4 n), .opq, .obj (rbO (.slice 3 0 21 21) stb kdb wdb vlb chb), WO W, .obj (kO 5 6 7 8), .opq, .opq, .opq, .obj (.cells [.nilptr, .ptr 9 0, .raw p, .ptr 10 0, .int .u64 id] 47), .obj (rdO R (epW (W.getD 7 0)) 1 0 0 0 0 .niliface .nilslice), .obj (rrO R (epW (W.getD 7 0)) 1 0 .nilslice 0 0 0)]) := by
  have hr := csR h1 h2
  have h7 : 7 < W.length := by omega
  refine gives_x hXSh (fn := Tryz.f12) rfl rfl rfl rfl fun ρ w => ?_
  refine sx hXSh [] 4000 rfl (by (simp [-List.getD_eq_getElem?_getD, -List.length_eq_zero_iff, conjP])) ?_
  refine sx hXSh [.T] 4000 rfl (by (simp [-List.getD_eq_getElem?_getD, -List.length_eq_zero_iff, conjP, addOP])) ?_
  refine sx hXSh [.K, .K, .F] 4000 rfl (by (simp [-List.getD_eq_getElem?_getD, -List.length_eq_zero_iff, conjP, getH, HE.so, h1, h2, hl, hw0, hw1])) ?_
  refine sx hXSh [.F, .F, .F] 4000 rfl (by (simp [-List.getD_eq_getElem?_getD, -List.length_eq_zero_iff, conjP, getH, HE.so, h1, h2, hr, hl, hw0, hw1])) ?_
  (refine ss_end hXSh [0, 1, 2, 3, 4, 5, 6, 7, 8, 13, 15] rfl rfl trivial rfl rfl rfl rfl (by (repeat' (first | exact rfl | exact trivial | exact sim_refl _ | refine And.intro ?_ ?_))) ?hh (by (repeat' (first | exact rfl | exact trivial | exact sim_refl _ | refine And.intro ?_ ?_))) (by (repeat' (first | exact rfl | exact trivial | exact sim_refl _ | refine And.intro ?_ ?_))); (case hh => (repeat' (first | exact rfl | exact trivial | exact sim_refl _ | (simp; done) | refine And.intro ?_ ?_)); done))
set_option maxHeartbeats 4000000 in
theorem begR31_fn : Gives Tryz.prog 12 [.ptr 0 0, .int .i64 3, .int .i64 m] [.obj (xO R 1 2 4 n), .opq, .obj (rbO (.sbuf 3 1 0 21) stb kdb wdb vlb chb), wdE W, .obj (kO 5 6 7 8), .opq, .opq, .opq, .obj (cqO .nilptr .nilptr p q id)] (Is (.tup []) [.obj (xO R 1 2 4 n), .opq, .obj (rbO (.sbuf 3 1 0 21) stb kdb wdb vlb chb), wdE W, .obj (kO 5 6 7 8), .opq, .opq, .opq, .obj (.cells [.nilptr, .ptr 9 0, .raw p, .ptr 10 0, .int .u64 id] 47), .obj (rdO R (epW (W.getD 7 0)) 1 0 0 0 0 .niliface .nilslice), .obj (rrO R (epW (W.getD 7 0)) 1 0 .nilslice 0 0 0)]) := by
  have hr := csR h1 h2
  have h7 : 7 < W.length := by omega
  refine gives_x hXSh (fn := Tryz.f12) rfl rfl rfl rfl fun ρ w => ?_
  refine sx hXSh [] 4000 rfl (by (simp [-List.getD_eq_getElem?_getD, -List.length_eq_zero_iff, conjP])) ?_
  refine sx hXSh [.T] 4000 rfl (by (simp [-List.getD_eq_getElem?_getD, -List.length_eq_zero_iff, conjP, addOP])) ?_
  refine sx hXSh [.K, .K, .F] 4000 rfl (by (simp [-List.getD_eq_getElem?_getD, -List.length_eq_zero_iff, conjP, getH, HE.so, h1, h2, hl, hw0, hw1, cellOff])) ?_
  refine sx hXSh [.F, .F, .F] 4000 rfl (by (simp [-List.getD_eq_getElem?_getD, -List.length_eq_zero_iff, conjP, getH, HE.so, h1, h2, hr, hl, hw0, hw1, cellOff])) ?_
  (refine ss_end hXSh [0, 1, 2, 3, 4, 5, 6, 7, 8, 13, 15] rfl rfl trivial rfl rfl rfl rfl (by (repeat' (first | exact rfl | exact trivial | exact sim_refl _ | refine And.intro ?_ ?_))) ?hh (by (repeat' (first | exact rfl | exact trivial | exact sim_refl _ | refine And.intro ?_ ?_))) (by (repeat' (first | exact rfl | exact trivial | exact sim_refl _ | refine And.intro ?_ ?_))); (case hh => (repeat' (first | exact rfl | exact trivial | exact sim_refl _ | (simp; done) | refine And.intro ?_ ?_)); done))
variable (hn : 0 ≤ n) (hn' : n < 1000000)
include hn hn'
def bgT00 (_m : Int) (K j : Nat) : List (Nat × SV) := [(0, .ptr 0 0), (6, .ptr 5 0), (7, .slice 9 0 K K), (8, .int .i64 (j : Int))]
def bgH00 (R n stb kdb wdb vlb : Int) (chb : Bool) (W : List Int) (p q : Value) (K j : Nat) : List HE := [.obj (xO R 1 2 4 (n + 1)), .opq, .obj (rbO (.slice 3 0 21 21) stb kdb wdb vlb chb), WO W, .obj (kO 5 6 7 8), .obj (.cells [.nilptr, .nilptr, .raw p, .raw q, .int .u64 (n + 1)] 47), .opq, .opq, .opq, .obj (.ints .u64 (fillL (n + 1) K j) 39)]
set_option maxHeartbeats 4000000 in
theorem begW00_fn : Gives Tryz.prog 12 [.ptr 0 0, .int .i64 0, .int .i64 m] [.obj (xO R 1 2 4 n), .opq, .obj (rbO (.slice 3 0 21 21) stb kdb wdb vlb chb), WO W, .obj (kO 5 6 7 8), .obj (cqO .nilptr .nilptr p q id), .opq, .opq, .opq] (Is (.tup []) [.obj (xO R 1 2 4 (n + 1)), .opq, .obj (rbO (.slice 3 0 21 21) stb kdb wdb vlb chb), WO W, .obj (kO 5 6 7 8), .obj (.cells [.ptr 9 0, .nilptr, .ptr 11 0, .raw q, .int .u64 (n + 1)] 47), .opq, .opq, .opq, .obj (wrO R (epW (W.getD 7 0)) 1 0 0 0 0 .niliface 10 (1 + a3 m).toNat 0 false), wdE (List.replicate (1 + a3 m).toNat (n + 1)), .obj (rwO R (epW (W.getD 7 0)) 1 0 0 12 (1 + a3 m).toNat 0 0 false 0), .obj (.ints .u64 (List.replicate (1 + a3 m).toNat (n + 1)) 39)]) := by
  have hr := csR h1 h2
  have h7 : 7 < W.length := by omega
  have e1 : IntKind.u64.wrap (n + 1) = n + 1 := wu8 (by omega) (by omega)
  have c := a3_cases m
  obtain ⟨K, hKe⟩ : ∃ K : Nat, K = (1 + a3 m).toNat := ⟨_, rfl⟩
  have hK : IntKind.i64.wrap (1 + ibits .and .i64 m 3) = (K : Int) := by
    show IntKind.i64.wrap (1 + a3 m) = _
    rw [wi64 (by omega) (by omega)]; omega
  have k1 : 1 ≤ K := by omega
  have k4 : K ≤ 4 := by omega
  have hK2 : (IntKind.i64.wrap (1 + ibits .and .i64 m 3)).toNat = K := by rw [hK]; omega
  rw [← hKe]
  refine gives_x hXSi (fn := Tryz.f12) rfl rfl rfl rfl fun ρ w => ?_
  refine sxb hXSi [.r 8] [] 4000 rfl (by first | exact trivial | simp [conjP]) ?_
  refine sxb hXSi [.r 8] [.F] 4000 rfl (by simp [conjP, hK]; omega) ?_
  refine sxb hXSi [.l] [] 4000 rfl (by first | exact trivial | simp [conjP]) ?_
  refine ss_sub hXSi (T' := bgT00 m K 0) (H' := bgH00 R n stb kdb wdb vlb chb W p q K 0) [0, 1, 2, 3, 4, 5, 6, 7, 8, 9] rfl rfl rfl rfl ?tt ?hh (by (repeat' (first | exact rfl | exact trivial | exact sim_refl _ | refine And.intro ?_ ?_))) (by (repeat' (first | exact rfl | exact trivial | exact sim_refl _ | refine And.intro ?_ ?_))) ?_
  case tt => simp only [hK2]; (repeat' (first | exact rfl | exact trivial | exact sim_refl _ | refine And.intro ?_ ?_)); done
  case hh => simp only [hK2, e1]; (repeat' (first | exact rfl | exact trivial | exact sim_refl _ | refine And.intro ?_ ?_)); done
  refine ss_loop hXSi (bgT00 m K) (bgH00 R n stb kdb wdb vlb chb W p q K) (fun j => j ≤ K) (fun j => K - j) 0 (by omega) ?_
  intro j hj I back
  have hj : j ≤ K := hj
  have e2 : IntKind.i64.wrap ((j : Int) + 1) = ((j + 1 : Nat) : Int) := by rw [wi64 (by omega) (by omega)]; omega
  dsimp only [bgT00, bgH00]
  by_cases hjk : j < K
  · have hjk' : (j : Int) < (K : Int) := by omega
    have fl : (fillL (n + 1) K j).length = K := fillL_len (by omega)
    refine sx hXSi [] 4000 rfl (by (simp [-List.getD_eq_getElem?_getD, -List.length_eq_zero_iff, conjP])) ?_
    refine sx hXSi [.T] 4000 rfl (by (simp [-List.getD_eq_getElem?_getD, -List.length_eq_zero_iff, conjP, hjk, hjk', fl])) ?_
    (refine back (j + 1) (by show j + 1 ≤ K; omega) (by show K - (j + 1) < K - j; omega) _ _ _ (sub_of [0, 1, 2, 3, 4, 5, 6, 7, 8, 9] rfl rfl rfl rfl ?tt ?hh (by (repeat' (first | exact rfl | exact trivial | exact sim_refl _ | refine And.intro ?_ ?_))) (by (repeat' (first | exact rfl | exact trivial | exact sim_refl _ | refine And.intro ?_ ?_)))); (case tt => simp only [e2]; (repeat' (first | exact rfl | exact trivial | exact sim_refl _ | refine And.intro ?_ ?_)); done); (case hh => simp only [Nat.add_zero, Int.toNat_natCast, fillL_set hjk]; (repeat' (first | exact rfl | exact trivial | exact sim_refl _ | refine And.intro ?_ ?_)); done))
  · have hje : j = K := by omega
    subst hje
    rw [fillL_full]
    have kk : ¬ (j : Int) = 0 := by omega
    have k5 : ¬ 4 < (j : Int) := by omega
    have fl : (List.replicate j (n + 1)).length = j := by simp
    refine sx hXSi [] 4000 rfl (by (simp [-List.getD_eq_getElem?_getD, -List.length_eq_zero_iff, conjP])) ?_
    refine sx hXSi [.F] 4000 rfl (by (simp [-List.getD_eq_getElem?_getD, -List.length_eq_zero_iff, conjP, addOP])) ?_
    refine sx hXSi [.K, .K, .F, .F, .F] 4000 rfl (by (simp [-List.getD_eq_getElem?_getD, -List.length_eq_zero_iff, conjP, getH, HE.so, h1, h2, hl, hw0, hw1, k5, fl] <;> (first | omega | ((repeat' (refine And.intro ?_ ?_)) <;> (first | omega | exact decide_eq_false (by omega) | exact decide_eq_true (by omega)))))) ?_
    refine sx hXSi [.F, .F, .F, .F, .F] 4000 rfl (by (simp [-List.getD_eq_getElem?_getD, -List.length_eq_zero_iff, conjP, getH, HE.so, h1, h2, hr, hl, hw0, hw1, k5] <;> (first | omega | ((repeat' (refine And.intro ?_ ?_)) <;> (first | omega | exact decide_eq_false (by omega) | exact decide_eq_true (by omega)))))) ?_
    (refine ss_end hXSi [0, 1, 2, 3, 4, 5, 6, 7, 8, 16, 15, 18, 9] rfl rfl trivial rfl rfl rfl rfl (by (repeat' (first | exact rfl | exact trivial | exact sim_refl _ | refine And.intro ?_ ?_))) ?hh (by (repeat' (first | exact rfl | exact trivial | exact sim_refl _ | refine And.intro ?_ ?_))) (by (repeat' (first | exact rfl | exact trivial | exact sim_refl _ | refine And.intro ?_ ?_))); (case hh => simp only [Nat.zero_add, mulS_eq, Nat.mul_one, List.drop_zero, List.take_replicate, Nat.min_self]; (repeat' (first | exact rfl | exact trivial | exact sim_refl _ | (simp; done) | refine And.intro ?_ ?_)); done))
def bgT01 (_m : Int) (K j : Nat) : List (Nat × SV) := [(0, .ptr 0 0), (6, .ptr 5 0), (7, .slice 9 0 K K), (8, .int .i64 (j : Int))]
def bgH01 (R n stb kdb wdb vlb : Int) (chb : Bool) (W : List Int) (p q : Value) (K j : Nat) : List HE := [.obj (xO R 1 2 4 (n + 1)), .opq, .obj (rbO (.sbuf 3 1 0 21) stb kdb wdb vlb chb), wdE W, .obj (kO 5 6 7 8), .obj (.cells [.nilptr, .nilptr, .raw p, .raw q, .int .u64 (n + 1)] 47), .opq, .opq, .opq, .obj (.ints .u64 (fillL (n + 1) K j) 39)]
set_option maxHeartbeats 4000000 in
theorem begW01_fn : Gives Tryz.prog 12 [.ptr 0 0, .int .i64 0, .int .i64 m] [.obj (xO R 1 2 4 n), .opq, .obj (rbO (.sbuf 3 1 0 21) stb kdb wdb vlb chb), wdE W, .obj (kO 5 6 7 8), .obj (cqO .nilptr .nilptr p q id), .opq, .opq, .opq] (Is (.tup []) [.obj (xO R 1 2 4 (n + 1)), .opq, .obj (rbO (.sbuf 3 1 0 21) stb kdb wdb vlb chb), wdE W, .obj (kO 5 6 7 8), .obj (.cells [.ptr 9 0, .nilptr, .ptr 11 0, .raw q, .int .u64 (n + 1)] 47), .opq, .opq, .opq, .obj (wrO R (epW (W.getD 7 0)) 1 0 0 0 0 .niliface 10 (1 + a3 m).toNat 0 false), wdE (List.replicate (1 + a3 m).toNat (n + 1)), .obj (rwO R (epW (W.getD 7 0)) 1 0 0 12 (1 + a3 m).toNat 0 0 false 0), .obj (.ints .u64 (List.replicate (1 + a3 m).toNat (n + 1)) 39)]) := by
  have hr := csR h1 h2
  have h7 : 7 < W.length := by omega
  have e1 : IntKind.u64.wrap (n + 1) = n + 1 := wu8 (by omega) (by omega)
  have c := a3_cases m
  obtain ⟨K, hKe⟩ : ∃ K : Nat, K = (1 + a3 m).toNat := ⟨_, rfl⟩
  have hK : IntKind.i64.wrap (1 + ibits .and .i64 m 3) = (K : Int) := by
    show IntKind.i64.wrap (1 + a3 m) = _
    rw [wi64 (by omega) (by omega)]; omega
  have k1 : 1 ≤ K := by omega
  have k4 : K ≤ 4 := by omega
  have hK2 : (IntKind.i64.wrap (1 + ibits .and .i64 m 3)).toNat = K := by rw [hK]; omega
  rw [← hKe]
  refine gives_x hXSi (fn := Tryz.f12) rfl rfl rfl rfl fun ρ w => ?_
  refine sxb hXSi [.r 8] [] 4000 rfl (by first | exact trivial | simp [conjP]) ?_
  refine sxb hXSi [.r 8] [.F] 4000 rfl (by simp [conjP, hK]; omega) ?_
  refine sxb hXSi [.l] [] 4000 rfl (by first | exact trivial | simp [conjP]) ?_
  refine ss_sub hXSi (T' := bgT01 m K 0) (H' := bgH01 R n stb kdb wdb vlb chb W p q K 0) [0, 1, 2, 3, 4, 5, 6, 7, 8, 9] rfl rfl rfl rfl ?tt ?hh (by (repeat' (first | exact rfl | exact trivial | exact sim_refl _ | refine And.intro ?_ ?_))) (by (repeat' (first | exact rfl | exact trivial | exact sim_refl _ | refine And.intro ?_ ?_))) ?_
  case tt => simp only [hK2]; (repeat' (first | exact rfl | exact trivial | exact sim_refl _ | refine And.intro ?_ ?_)); done
  case hh => simp only [hK2, e1]; (repeat' (first | exact rfl | exact trivial | exact sim_refl _ | refine And.intro ?_ ?_)); done
  refine ss_loop hXSi (bgT01 m K) (bgH01 R n stb kdb wdb vlb chb W p q K) (fun j => j ≤ K) (fun j => K - j) 0 (by omega) ?_
  intro j hj I back
  have hj : j ≤ K := hj
  have e2 : IntKind.i64.wrap ((j : Int) + 1) = ((j + 1 : Nat) : Int) := by rw [wi64 (by omega) (by omega)]; omega
  dsimp only [bgT01, bgH01]
  by_cases hjk : j < K
  · have hjk' : (j : Int) < (K : Int) := by omega
    have fl : (fillL (n + 1) K j).length = K := fillL_len (by omega)
    refine sx hXSi [] 4000 rfl (by (simp [-List.getD_eq_getElem?_getD, -List.length_eq_zero_iff, conjP])) ?_
    refine sx hXSi [.T] 4000 rfl (by (simp [-List.getD_eq_getElem?_getD, -List.length_eq_zero_iff, conjP, hjk, hjk', fl])) ?_
    (refine back (j + 1) (by show j + 1 ≤ K; omega) (by show K - (j + 1) < K - j; omega) _ _ _ (sub_of [0, 1, 2, 3, 4, 5, 6, 7, 8, 9] rfl rfl rfl rfl ?tt ?hh (by (repeat' (first | exact rfl | exact trivial | exact sim_refl _ | refine And.intro ?_ ?_))) (by (repeat' (first | exact rfl | exact trivial | exact sim_refl _ | refine And.intro ?_ ?_)))); (case tt => simp only [e2]; (repeat' (first | exact rfl | exact trivial | exact sim_refl _ | refine And.intro ?_ ?_)); done); (case hh => simp only [Nat.add_zero, Int.toNat_natCast, fillL_set hjk]; (repeat' (first | exact rfl | exact trivial | exact sim_refl _ | refine And.intro ?_ ?_)); done))
  · have hje : j = K := by omega
    subst hje
    rw [fillL_full]
    have kk : ¬ (j : Int) = 0 := by omega
    have k5 : ¬ 4 < (j : Int) := by omega
    have fl : (List.replicate j (n + 1)).length = j := by simp
    refine sx hXSi [] 4000 rfl (by (simp [-List.getD_eq_getElem?_getD, -List.length_eq_zero_iff, conjP])) ?_
    refine sx hXSi [.F] 4000 rfl (by (simp [-List.getD_eq_getElem?_getD, -List.length_eq_zero_iff, conjP, addOP])) ?_
    refine sx hXSi [.K, .K, .F, .F, .F] 4000 rfl (by (simp [-List.getD_eq_getElem?_getD, -List.length_eq_zero_iff, conjP, getH, HE.so, h1, h2, hl, hw0, hw1, k5, fl, cellOff] <;> (first | omega | ((repeat' (refine And.intro ?_ ?_)) <;> (first | omega | exact decide_eq_false (by omega) | exact decide_eq_true (by omega)))))) ?_
    refine sx hXSi [.F, .F, .F, .F, .F] 4000 rfl (by (simp [-List.getD_eq_getElem?_getD, -List.length_eq_zero_iff, conjP, getH, HE.so, h1, h2, hr, hl, hw0, hw1, k5, cellOff] <;> (first | omega | ((repeat' (refine And.intro ?_ ?_)) <;> (first | omega | exact decide_eq_false (by omega) | exact decide_eq_true (by omega)))))) ?_
    (refine ss_end hXSi [0, 1, 2, 3, 4, 5, 6, 7, 8, 16, 15, 18, 9] rfl rfl trivial rfl rfl rfl rfl (by (repeat' (first | exact rfl | exact trivial | exact sim_refl _ | refine And.intro ?_ ?_))) ?hh (by (repeat' (first | exact rfl | exact trivial | exact sim_refl _ | refine And.intro ?_ ?_))) (by (repeat' (first | exact rfl | exact trivial | exact sim_refl _ | refine And.intro ?_ ?_))); (case hh => simp only [Nat.zero_add, mulS_eq, Nat.mul_one, List.drop_zero, List.take_replicate, Nat.min_self]; (repeat' (first | exact rfl | exact trivial | exact sim_refl _ | (simp; done) | refine And.intro ?_ ?_)); done))
def bgT10 (_m : Int) (K j : Nat) : List (Nat × SV) := [(0, .ptr 0 0), (6, .ptr 6 0), (7, .slice 9 0 K K), (8, .int .i64 (j : Int))]
def bgH10 (R n stb kdb wdb vlb : Int) (chb : Bool) (W : List Int) (p q : Value) (K j : Nat) : List HE := [.obj (xO R 1 2 4 (n + 1)), .opq, .obj (rbO (.slice 3 0 21 21) stb kdb wdb vlb chb), WO W, .obj (kO 5 6 7 8), .opq, .obj (.cells [.nilptr, .nilptr, .raw p, .raw q, .int .u64 (n + 1)] 47), .opq, .opq, .obj (.ints .u64 (fillL (n + 1) K j) 39)]
set_option maxHeartbeats 4000000 in
theorem begW10_fn : Gives Tryz.prog 12 [.ptr 0 0, .int .i64 1, .int .i64 m] [.obj (xO R 1 2 4 n), .opq, .obj (rbO (.slice 3 0 21 21) stb kdb wdb vlb chb), WO W, .obj (kO 5 6 7 8), .opq, .obj (cqO .nilptr .nilptr p q id), .opq, .opq] (Is (.tup []) [.obj (xO R 1 2 4 (n + 1)), .opq, .obj (rbO (.slice 3 0 21 21) stb kdb wdb vlb chb), WO W, .obj (kO 5 6 7 8), .opq, .obj (.cells [.ptr 9 0, .nilptr, .ptr 11 0, .raw q, .int .u64 (n + 1)] 47), .opq, .opq, .obj (wrO R (epW (W.getD 7 0)) 1 0 0 0 0 .niliface 10 (1 + a3 m).toNat 0 false), wdE (List.replicate (1 + a3 m).toNat (n + 1)), .obj (rwO R (epW (W.getD 7 0)) 1 0 0 12 (1 + a3 m).toNat 0 0 false 0), .obj (.ints .u64 (List.replicate (1 + a3 m).toNat (n + 1)) 39)]) := by
  have hr := csR h1 h2
  have h7 : 7 < W.length := by omega
  have e1 : IntKind.u64.wrap (n + 1) = n + 1 := wu8 (by omega) (by omega)
  have c := a3_cases m
  obtain ⟨K, hKe⟩ : ∃ K : Nat, K = (1 + a3 m).toNat := ⟨_, rfl⟩
  have hK : IntKind.i64.wrap (1 + ibits .and .i64 m 3) = (K : Int) := by
    show IntKind.i64.wrap (1 + a3 m) = _
    rw [wi64 (by omega) (by omega)]; omega
  have k1 : 1 ≤ K := by omega
  have k4 : K ≤ 4 := by omega
  have hK2 : (IntKind.i64.wrap (1 + ibits .and .i64 m 3)).toNat = K := by rw [hK]; omega
  rw [← hKe]
  refine gives_x hXSi (fn := Tryz.f12) rfl rfl rfl rfl fun ρ w => ?_
  refine sxb hXSi [.r 8] [] 4000 rfl (by first | exact trivial | simp [conjP]) ?_
  refine sxb hXSi [.r 8] [.F] 4000 rfl (by simp [conjP, hK]; omega) ?_
  refine sxb hXSi [.l] [] 4000 rfl (by first | exact trivial | simp [conjP]) ?_
  refine ss_sub hXSi (T' := bgT10 m K 0) (H' := bgH10 R n stb kdb wdb vlb chb W p q K 0) [0, 1, 2, 3, 4, 5, 6, 7, 8, 9] rfl rfl rfl rfl ?tt ?hh (by (repeat' (first | exact rfl | exact trivial | exact sim_refl _ | refine And.intro ?_ ?_))) (by (repeat' (first | exact rfl | exact trivial | exact sim_refl _ | refine And.intro ?_ ?_))) ?_
  case tt => simp only [hK2]; (repeat' (first | exact rfl | exact trivial | exact sim_refl _ | refine And.intro ?_ ?_)); done
  case hh => simp only [hK2, e1]; (repeat' (first | exact rfl | exact trivial | exact sim_refl _ | refine And.intro ?_ ?_)); done
  refine ss_loop hXSi (bgT10 m K) (bgH10 R n stb kdb wdb vlb chb W p q K) (fun j => j ≤ K) (fun j => K - j) 0 (by omega) ?_
  intro j hj I back
  have hj : j ≤ K := hj
  have e2 : IntKind.i64.wrap ((j : Int) + 1) = ((j + 1 : Nat) : Int) := by rw [wi64 (by omega) (by omega)]; omega
  dsimp only [bgT10, bgH10]
  by_cases hjk : j < K
  · have hjk' : (j : Int) < (K : Int) := by omega
    have fl : (fillL (n + 1) K j).length = K := fillL_len (by omega)
    refine sx hXSi [] 4000 rfl (by (simp [-List.getD_eq_getElem?_getD, -List.length_eq_zero_iff, conjP])) ?_
    refine sx hXSi [.T] 4000 rfl (by (simp [-List.getD_eq_getElem?_getD, -List.length_eq_zero_iff, conjP, hjk, hjk', fl])) ?_
    (refine back (j + 1) (by show j + 1 ≤ K; omega) (by show K - (j + 1) < K - j; omega) _ _ _ (sub_of [0, 1, 2, 3, 4, 5, 6, 7, 8, 9] rfl rfl rfl rfl ?tt ?hh (by (repeat' (first | exact rfl | exact trivial | exact sim_refl _ | refine And.intro ?_ ?_))) (by (repeat' (first | exact rfl | exact trivial | exact sim_refl _ | refine And.intro ?_ ?_)))); (case tt => simp only [e2]; (repeat' (first | exact rfl | exact trivial | exact sim_refl _ | refine And.intro ?_ ?_)); done); (case hh => simp only [Nat.add_zero, Int.toNat_natCast, fillL_set hjk]; (repeat' (first | exact rfl | exact trivial | exact sim_refl _ | refine And.intro ?_ ?_)); done))
  · have hje : j = K := by omega
    subst hje
    rw [fillL_full]
    have kk : ¬ (j : Int) = 0 := by omega
    have k5 : ¬ 4 < (j : Int) := by omega
    have fl : (List.replicate j (n + 1)).length = j := by simp
    refine sx hXSi [] 4000 rfl (by (simp [-List.getD_eq_getElem?_getD, -List.length_eq_zero_iff, conjP])) ?_
    refine sx hXSi [.F] 4000 rfl (by (simp [-List.getD_eq_getElem?_getD, -List.length_eq_zero_iff, conjP, addOP])) ?_
    refine sx hXSi [.K, .K, .F, .F, .F] 4000 rfl (by (simp [-List.getD_eq_getElem?_getD, -List.length_eq_zero_iff, conjP, getH, HE.so, h1, h2, hl, hw0, hw1, k5, fl] <;> (first | omega | ((repeat' (refine And.intro ?_ ?_)) <;> (first | omega | exact decide_eq_false (by omega) | exact decide_eq_true (by omega)))))) ?_
    refine sx hXSi [.F, .F, .F, .F, .F] 4000 rfl (by (simp [-List.getD_eq_getElem?_getD, -List.length_eq_zero_iff, conjP, getH, HE.so, h1, h2, hr, hl, hw0, hw1, k5] <;> (first | omega | ((repeat' (refine And.intro ?_ ?_)) <;> (first | omega | exact decide_eq_false (by omega) | exact decide_eq_true (by omega)))))) ?_
    (refine ss_end hXSi [0, 1, 2, 3, 4, 5, 6, 7, 8, 16, 15, 18, 9] rfl rfl trivial rfl rfl rfl rfl (by (repeat' (first | exact rfl | exact trivial | exact sim_refl _ | refine And.intro ?_ ?_))) ?hh (by (repeat' (first | exact rfl | exact trivial | exact sim_refl _ | refine And.intro ?_ ?_))) (by (repeat' (first | exact rfl | exact trivial | exact sim_refl _ | refine And.intro ?_ ?_))); (case hh => simp only [Nat.zero_add, mulS_eq, Nat.mul_one, List.drop_zero, List.take_replicate, Nat.min_self]; (repeat' (first | exact rfl | exact trivial | exact sim_refl _ | (simp; done) | refine And.intro ?_ ?_)); done))
def bgT11 (_m : Int) (K j : Nat) : List (Nat × SV) := [(0, .ptr 0 0), (6, .ptr 6 0), (7, .slice 9 0 K K), (8, .int .i64 (j : Int))]
def bgH11 (R n stb kdb wdb vlb : Int) (chb : Bool) (W : List Int) (p q : Value) (K j : Nat) : List HE := [.obj (xO R 1 2 4 (n + 1)), .opq, .obj (rbO (.sbuf 3 1 0 21) stb kdb wdb vlb chb), wdE W, .obj (kO 5 6 7 8), .opq, .obj (.cells [.nilptr, .nilptr, .raw p, .raw q, .int .u64 (n + 1)] 47), .opq, .opq, .obj (.ints .u64 (fillL (n + 1) K j) 39)]
set_option maxHeartbeats 4000000 in
theorem begW11_fn : Gives Tryz.prog 12 [.ptr 0 0, .int .i64 1, .int .i64 m] [.obj (xO R 1 2 4 n), .opq, .obj (rbO (.sbuf 3 1 0 21) stb kdb wdb vlb chb), wdE W, .obj (kO 5 6 7 8), .opq, .obj (cqO .nilptr .nilptr p q id), .opq, .opq] (Is (.tup []) [.obj (xO R 1 2 4 (n + 1)), .opq, .obj (rbO (.sbuf 3 1 0 21) stb kdb wdb vlb chb), wdE W, .obj (kO 5 6 7 8), .opq, .obj (.cells [.ptr 9 0, .nilptr, .ptr 11 0, .raw q, .int .u64 (n + 1)] 47), .opq, .opq, .obj (wrO R (epW (W.getD 7 0)) 1 0 0 0 0 .niliface 10 (1 + a3 m).toNat 0 false), wdE (List.replicate (1 + a3 m).toNat (n + 1)), .obj (rwO R (epW (W.getD 7 0)) 1 0 0 12 (1 + a3 m).toNat 0 0 false 0), .obj (.ints .u64 (List.replicate (1 + a3 m).toNat (n + 1)) 39)]) := by
  have hr := csR h1 h2
  have h7 : 7 < W.length := by omega
  have e1 : IntKind.u64.wrap (n + 1) = n + 1 := wu8 (by omega) (by omega)
  have c := a3_cases m
  obtain ⟨K, hKe⟩ : ∃ K : Nat, K = (1 + a3 m).toNat := ⟨_, rfl⟩
  have hK : IntKind.i64.wrap (1 + ibits .and .i64 m 3) = (K : Int) := by
    show IntKind.i64.wrap (1 + a3 m) = _
    rw [wi64 (by omega) (by omega)]; omega
  have k1 : 1 ≤ K := by omega
  have k4 : K ≤ 4 := by omega
  have hK2 : (IntKind.i64.wrap (1 + ibits .and .i64 m 3)).toNat = K := by rw [hK]; omega
  rw [← hKe]
  refine gives_x hXSi (fn := Tryz.f12) rfl rfl rfl rfl fun ρ w => ?_
  refine sxb hXSi [.r 8] [] 4000 rfl (by first | exact trivial | simp [conjP]) ?_
  refine sxb hXSi [.r 8] [.F] 4000 rfl (by simp [conjP, hK]; omega) ?_
  refine sxb hXSi [.l] [] 4000 rfl (by first | exact trivial | simp [conjP]) ?_
  refine ss_sub hXSi (T' := bgT11 m K 0) (H' := bgH11 R n stb kdb wdb vlb chb W p q K 0) [0, 1, 2, 3, 4, 5, 6, 7, 8, 9] rfl rfl rfl rfl ?tt ?hh (by (repeat' (first | exact rfl | exact trivial | exact sim_refl _ | refine And.intro ?_ ?_))) (by (repeat' (first | exact rfl | exact trivial | exact sim_refl _ | refine And.intro ?_ ?_))) ?_
  case tt => simp only [hK2]; (repeat' (first | exact rfl | exact trivial | exact sim_refl _ | refine And.intro ?_ ?_)); done
  case hh => simp only [hK2, e1]; (repeat' (first | exact rfl | exact trivial | exact sim_refl _ | refine And.intro ?_ ?_)); done
  refine ss_loop hXSi (bgT11 m K) (bgH11 R n stb kdb wdb vlb chb W p q K) (fun j => j ≤ K) (fun j => K - j) 0 (by omega) ?_
  intro j hj I back
  have hj : j ≤ K := hj
  have e2 : IntKind.i64.wrap ((j : Int) + 1) = ((j + 1 : Nat) : Int) := by rw [wi64 (by omega) (by omega)]; omega
  dsimp only [bgT11, bgH11]
  by_cases hjk : j < K
  · have hjk' : (j : Int) < (K : Int) := by omega
    have fl : (fillL (n + 1) K j).length = K := fillL_len (by omega)
    refine sx hXSi [] 4000 rfl (by (simp [-List.getD_eq_getElem?_getD, -List.length_eq_zero_iff, conjP])) ?_
    refine sx hXSi [.T] 4000 rfl (by (simp [-List.getD_eq_getElem?_getD, -List.length_eq_zero_iff, conjP, hjk, hjk', fl])) ?_
    (refine back (j + 1) (by show j + 1 ≤ K; omega) (by show K - (j + 1) < K - j; omega) _ _ _ (sub_of [0, 1, 2, 3, 4, 5, 6, 7, 8, 9] rfl rfl rfl rfl ?tt ?hh (by (repeat' (first | exact rfl | exact trivial | exact sim_refl _ | refine And.intro ?_ ?_))) (by (repeat' (first | exact rfl | exact trivial | exact sim_refl _ | refine And.intro ?_ ?_)))); (case tt => simp only [e2]; (repeat' (first | exact rfl | exact trivial | exact sim_refl _ | refine And.intro ?_ ?_)); done); (case hh => simp only [Nat.add_zero, Int.toNat_natCast, fillL_set hjk]; (repeat' (first | exact rfl | exact trivial | exact sim_refl _ | refine And.intro ?_ ?_)); done))
  · have hje : j = K := by omega
    subst hje
    rw [fillL_full]
    have kk : ¬ (j : Int) = 0 := by omega
    have k5 : ¬ 4 < (j : Int) := by omega
    have fl : (List.replicate j (n + 1)).length = j := by simp
    refine sx hXSi [] 4000 rfl (by (simp [-List.getD_eq_getElem?_getD, -List.length_eq_zero_iff, conjP])) ?_
    refine sx hXSi [.F] 4000 rfl (by (simp [-List.getD_eq_getElem?_getD, -List.length_eq_zero_iff, conjP, addOP])) ?_
    refine sx hXSi [.K, .K, .F, .F, .F] 4000 rfl (by (simp [-List.getD_eq_getElem?_getD, -List.length_eq_zero_iff, conjP, getH, HE.so, h1, h2, hl, hw0, hw1, k5, fl, cellOff] <;> (first | omega | ((repeat' (refine And.intro ?_ ?_)) <;> (first | omega | exact decide_eq_false (by omega) | exact decide_eq_true (by omega)))))) ?_
    refine sx hXSi [.F, .F, .F, .F, .F] 4000 rfl (by (simp [-List.getD_eq_getElem?_getD, -List.length_eq_zero_iff, conjP, getH, HE.so, h1, h2, hr, hl, hw0, hw1, k5, cellOff] <;> (first | omega | ((repeat' (refine And.intro ?_ ?_)) <;> (first | omega | exact decide_eq_false (by omega) | exact decide_eq_true (by omega)))))) ?_
    (refine ss_end hXSi [0, 1, 2, 3, 4, 5, 6, 7, 8, 16, 15, 18, 9] rfl rfl trivial rfl rfl rfl rfl (by (repeat' (first | exact rfl | exact trivial | exact sim_refl _ | refine And.intro ?_ ?_))) ?hh (by (repeat' (first | exact rfl | exact trivial | exact sim_refl _ | refine And.intro ?_ ?_))) (by (repeat' (first | exact rfl | exact trivial | exact sim_refl _ | refine And.intro ?_ ?_))); (case hh => simp only [Nat.zero_add, mulS_eq, Nat.mul_one, List.drop_zero, List.take_replicate, Nat.min_self]; (repeat' (first | exact rfl | exact trivial | exact sim_refl _ | (simp; done) | refine And.intro ?_ ?_)); done))
end
end Go.Proofs.YtmghcelohnlceaaGreatDoor
