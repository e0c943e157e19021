/- The document's list of a class. -/
import Derived.Test.YtmghcelohnlceaaPoolRows
namespace Go.Proofs.Ytmghcelohnlceaa
open Go Go.Hx
set_option maxRecDepth 8000
theorem and32 {x : Int} (h0 : 0 ≤ x) (h1 : x < 18446744073709551616) : ibits .and .u64 x 4294967295 = x % 4294967296 := by
  obtain ⟨n, rfl⟩ := Int.eq_ofNat_of_zero_le h0
  have e : (BitVec.ofInt IntKind.u64.bits (n : Int) &&& BitVec.ofInt IntKind.u64.bits 4294967295).toNat = n % 4294967296 := by
    rw [BitVec.toNat_and]
    have e1 : (BitVec.ofInt IntKind.u64.bits (n : Int)).toNat = n := by
      simp only [BitVec.toNat_ofInt, IntKind.bits]
      omega
    have e2 : (BitVec.ofInt IntKind.u64.bits 4294967295).toNat = 2 ^ 32 - 1 := by decide
    rw [e1, e2, Nat.and_two_pow_sub_one_eq_mod]
  show IntKind.u64.wrap _ = _
  rw [e, IntKind.wrap_u64]
  omega
def rszS : List SV → Option (List Prop × SV)
  | [.agg [.int .i64 a0, .int .i64 a1, .int .i64 a2, .int .i64 a3, .int .i64 a4, .int .i64 a5, .int .i64 a6, .int .i64 a7, .int .i64 a8]] => some ([rightB a0 a1 a2 a3 a4 a5 a6 a7 a8 = true], .int .i64 (sizeV a0 a1 a2 a4 a5 a6 a7))
  | _ => none
theorem rszS_ok : PureOk 49 rszS := by
  intro args ob V hs ho
  unfold rszS at hs
  split at hs
  · simp only [Option.some.injEq, Prod.mk.injEq] at hs
    obtain ⟨rfl, rfl⟩ := hs
    have o1 := ho _ (List.mem_cons_self ..)
    exact ⟨rfl, rfl, rsize_fn o1⟩
  · simp at hs
def ctRl : Nat → Option Hx.Spec
  | 48 => some (pureS rightS)
  | 50 => some (pureS (placeS classF))
  | 51 => some (pureS (placeS blockF))
  | 49 => some (pureS rszS)
  | _ => none
theorem ctRl_ok : ∀ f s args H ob V L, ctRl f = some s → s args H = some (ob, V, L) → AllP ob → Gives Try.prog f args H (Is V L) := by
  intro f s args H ob V L h hs ho
  unfold ctRl at h
  split at h
  · simp at h; subst h; exact pureS_ok ⟨_, hTE⟩ (rightS_ok right48) hs ho
  · simp at h; subst h; exact pureS_ok ⟨_, hTE⟩ (placeS_ok (v := classF) rclass_fn) hs ho
  · simp at h; subst h; exact pureS_ok ⟨_, hTE⟩ (placeS_ok (v := blockF) rblock_fn) hs ho
  · simp at h; subst h; exact pureS_ok ⟨_, hTE⟩ (rszS_ok) hs ho
  · simp at h
noncomputable def XRl : Tabs := tabs tr ft xt (fun _ => none) ctRl 0
theorem hXRl : TOk Try.prog (XRl) := ⟨hTE, hFT, ctRl_ok, hXT, fun t ks h => by simp [XRl, tabs] at h, mixed⟩
def nzl (l : List Int) : Option (List Int) :=
  match l with
  | [] => none
  | x :: r => some (x :: r)
/-- What is told of a list. -/
abbrev toldV (o : Option (List Int)) (h : Nat) : SV := .agg [slV o h, .int .i64 0, .int .i64 0, .ff]
abbrev wBuf (W : List Int) : HE := .obj (.buf .u64 W 1 70)
def rlT (W : List Int) (c : Int) (pre : List Int) (at_ : Int) : List (Nat × SV) := [(1, .sbuf 0 1 0 W.length), (2, .int .i64 c), (3, .ptr 1 0), (6, .ptr 2 0), (8, slV (nzl pre) 3), (9, .int .i64 at_)]
def rlT0 (W : List Int) (c : Int) : List (Nat × SV) := [(1, .sbuf 0 1 0 W.length), (2, .int .i64 c), (3, .ptr 1 0), (6, .ptr 2 0), (8, .nilslice)]
def rlH (A B : Int) (W : List Int) (pre : List Int) : List HE := [wBuf W, .obj (.cells [.int .i64 1, .int .i64 4, .int .i64 1, .int .i64 2, .int .i64 4, .int .i64 A, .int .i64 6, .int .i64 B, .int .i64 2] 29), .obj (.cells [.nilslice, .int .i64 0, .int .i64 0, .ff] 53), slE (nzl pre) .i64 3]
def cntV (A B c : Int) : Int := if c = 0 then A else B
section
variable {A B c : Int} {W L : List Int} (hr : rightB 1 4 1 2 4 A 6 B 2 = true) (hl : (W.length : Int) = 16 + A * 5 + B * 7) (bd : ∀ j, 0 ≤ W.getD j 0 ∧ W.getD j 0 < 18446744073709551616) (hc : c = 0 ∨ c = 1)
  (hch : chn A B W (W.getD (3 + c).toNat 0) L) (hcl : ∀ b ∈ L, classV A B b = c) (hn : L.length ≤ (cntV A B c).toNat)
include hr hl bd hc hch hcl hn
set_option maxHeartbeats 8000000 in
theorem rlist_loop {ρ : Nat → Nat × Nat} {w : World} : SS hXRl (At ρ w) (Is (toldV (nzl L) 1) [wBuf W, slE (nzl L) .i64 3]) ⟨[], [], Try.f19, Try.f19.ntmps, [wBuf W], contF Try.f19 7 [], rlT0 W c, rlH A B W []⟩ := by
  have hr' := right_iff.1 hr
  have h3 : IntKind.i64.wrap (3 + c) = 3 + c := wi64 (by omega) (by omega)
  refine sxb hXRl [.l] [] 4000 rfl (by first | exact trivial | simp [conjP]) ?_
  refine ss_sub hXRl (T' := rlT W c [] (3 + c)) (H' := rlH A B W []) [0, 1, 2, 9] rfl rfl rfl rfl ?tt (by (repeat' (first | exact rfl | exact trivial | exact sim_refl _ | refine And.intro ?_ ?_))) (by (repeat' (first | exact rfl | exact trivial | exact sim_refl _ | refine And.intro ?_ ?_))) (by (repeat' (first | exact rfl | exact trivial | exact sim_refl _ | refine And.intro ?_ ?_))) ?_
  case tt => exact ⟨by (repeat' (first | exact rfl | exact trivial | exact sim_refl _ | refine And.intro ?_ ?_)), by (repeat' (first | exact rfl | exact trivial | exact sim_refl _ | refine And.intro ?_ ?_)), by (repeat' (first | exact rfl | exact trivial | exact sim_refl _ | refine And.intro ?_ ?_)), by (repeat' (first | exact rfl | exact trivial | exact sim_refl _ | refine And.intro ?_ ?_)), by (repeat' (first | exact rfl | exact trivial | exact sim_refl _ | refine And.intro ?_ ?_)), ⟨rfl, h3⟩, trivial⟩
  refine ss_loop hXRl (fun x : List Int × List Int × Int => rlT W c x.1 x.2.2) (fun x => rlH A B W x.1) (fun x => L = x.1 ++ x.2.1 ∧ chn A B W (W.getD x.2.2.toNat 0) x.2.1 ∧ 0 ≤ x.2.2 ∧ x.2.2 < W.length) (fun x => x.2.1.length) ([], L, 3 + c) ⟨rfl, hch, by simp only; omega, by simp only; omega⟩ ?_
  rintro ⟨pre, rest, at_⟩ ⟨hL, hq, ha0, ha1⟩ I back
  simp only at hL hq ha0 ha1
  dsimp only
  have hb := bd at_.toNat
  have hm := and32 hb.1 hb.2
  have hai : at_.toNat < W.length := by omega
  cases rest with
  | nil =>
    have hz : W.getD at_.toNat 0 % 4294967296 = 0 := hq
    rw [List.append_nil] at hL
    subst hL
    cases L with
    | nil =>
      dsimp only [rlT, rlH, nzl, slV, slE]
      refine sx hXRl [] 4000 rfl (by (simp [-List.getD_eq_getElem?_getD, -List.length_eq_zero_iff, conjP, hai, ha0, cellOff] <;> (first | omega | ((repeat' (refine And.intro ?_ ?_)) <;> (first | omega | exact decide_eq_false (by omega) | exact decide_eq_true (by omega)))))) ?_
      refine sx hXRl [.F] 4000 rfl (by (simp [-List.getD_eq_getElem?_getD, -List.length_eq_zero_iff, conjP, addOP, hm, hz, cellOff] <;> (first | omega | ((repeat' (refine And.intro ?_ ?_)) <;> (first | omega | exact decide_eq_false (by omega) | exact decide_eq_true (by omega)))))) ?_
      (exact ss_end hXRl [0, 9] rfl rfl trivial rfl rfl rfl rfl (by (repeat' (first | exact rfl | exact trivial | exact sim_refl _ | refine And.intro ?_ ?_))) (by (repeat' (first | exact rfl | exact trivial | exact sim_refl _ | refine And.intro ?_ ?_))) (by (repeat' (first | exact rfl | exact trivial | exact sim_refl _ | refine And.intro ?_ ?_))) (by (repeat' (first | exact rfl | exact trivial | exact sim_refl _ | refine And.intro ?_ ?_))))
    | cons x r =>
      dsimp only [rlT, rlH, nzl, slV, slE]
      refine sx hXRl [] 4000 rfl (by (simp [-List.getD_eq_getElem?_getD, -List.length_eq_zero_iff, conjP, hai, ha0, cellOff] <;> (first | omega | ((repeat' (refine And.intro ?_ ?_)) <;> (first | omega | exact decide_eq_false (by omega) | exact decide_eq_true (by omega)))))) ?_
      refine sx hXRl [.F] 4000 rfl (by (simp [-List.getD_eq_getElem?_getD, -List.length_eq_zero_iff, conjP, addOP, hm, hz, cellOff] <;> (first | omega | ((repeat' (refine And.intro ?_ ?_)) <;> (first | omega | exact decide_eq_false (by omega) | exact decide_eq_true (by omega)))))) ?_
      (exact ss_end hXRl [0, 3] rfl rfl trivial rfl rfl rfl rfl (by (repeat' (first | exact rfl | exact trivial | exact sim_refl _ | refine And.intro ?_ ?_))) (by (repeat' (first | exact rfl | exact trivial | exact sim_refl _ | refine And.intro ?_ ?_))) (by (repeat' (first | exact rfl | exact trivial | exact sim_refl _ | refine And.intro ?_ ?_))) (by (repeat' (first | exact rfl | exact trivial | exact sim_refl _ | refine And.intro ?_ ?_))))
  | cons b rest =>
    have hbv : W.getD at_.toNat 0 % 4294967296 = b := hq.1
    have hbc := hcl b (by rw [hL]; simp)
    have hbi := cls_iff (by omega) hbc
    have hbk := bkP_range (A := A) (B := B) (b := b) (by omega) (by omega) hbi.1 hbi.2.1
    have hk0 : 0 ≤ blockF 1 4 1 2 4 A 6 B 2 b := Int.le_trans (by decide : (0 : Int) ≤ 16) hbk.1
    have hk1 : blockF 1 4 1 2 4 A 6 B 2 b < W.length := by rw [hl, ← szP_eq]; exact hbk.2
    have hcF : classF 1 4 1 2 4 A 6 B 2 b = c := hbc
    have hbz : ¬ b = 0 := by omega
    have hwb : IntKind.i64.wrap b = b := wi64 (by omega) (by omega)
    have hlen : pre.length < (cntV A B c).toNat := by
      have : L.length = pre.length + (rest.length + 1) := by rw [hL]; simp
      omega
    have hcv : cntV A B c ≤ 12 := by unfold cntV; split <;> omega
    have hp25 : pre.length ≤ 25 := by omega
    have hE : IntKind.i64.wrap (ibits .and .u64 (W.getD (cellOff at_.toNat 1 0) 0) 4294967295) = b := by
      show IntKind.i64.wrap (ibits .and .u64 (W.getD at_.toNat 0) 4294967295) = b
      rw [hm, hbv, hwb]
    rcases hc with rfl | rfl
    · have hlen' : ¬ (pre.length : Int) = A := by have : cntV A B 0 = A := rfl; omega
      cases pre with
      | nil =>
        simp only [List.length_nil] at hlen'
        have hlen2 : ¬ (0 : Int) = A := by simpa using hlen'
        dsimp only [rlT, rlH, nzl, slV, slE]
        refine sx hXRl [] 4000 rfl (by (simp [-List.getD_eq_getElem?_getD, -List.length_eq_zero_iff, conjP, hai, ha0, cellOff] <;> (first | omega | ((repeat' (refine And.intro ?_ ?_)) <;> (first | omega | exact decide_eq_false (by omega) | exact decide_eq_true (by omega)))))) ?_
        refine sx hXRl [.T] 4000 rfl (by (simp [-List.getD_eq_getElem?_getD, -List.length_eq_zero_iff, conjP, hai, ha0, hm, hbv, hbz, hwb, hr, cellOff] <;> (first | omega | ((repeat' (refine And.intro ?_ ?_)) <;> (first | omega | exact decide_eq_false (by omega) | exact decide_eq_true (by omega)))))) ?_
        refine sx hXRl [.F] 4000 rfl (by (simp [-List.getD_eq_getElem?_getD, -List.length_eq_zero_iff, conjP, hm, hbv, hwb, hcF, cellOff] <;> (first | omega | ((repeat' (refine And.intro ?_ ?_)) <;> (first | omega | exact decide_eq_false (by omega) | exact decide_eq_true (by omega)))))) ?_
        refine sx hXRl [.F] 4000 rfl (by (simp [-List.getD_eq_getElem?_getD, -List.length_eq_zero_iff, conjP, hm, hbv, hwb, hr, hlen2, cellOff] <;> (first | omega | ((repeat' (refine And.intro ?_ ?_)) <;> (first | omega | exact decide_eq_false (by omega) | exact decide_eq_true (by omega)))))) ?_
        (simp only [hE]; refine back ([b], rest, _) ⟨hL, ?q, hk0, hk1⟩ (by simp) _ _ _ (sub_of [0, 1, 2, 5] rfl rfl rfl rfl ?tt ?hh (by (repeat' (first | exact rfl | exact trivial | exact sim_refl _ | refine And.intro ?_ ?_))) (by (repeat' (first | exact rfl | exact trivial | exact sim_refl _ | refine And.intro ?_ ?_)))); (case tt => (repeat' (first | exact rfl | exact trivial | exact sim_refl _ | (simp; done) | refine And.intro ?_ ?_))); (case hh => (repeat' (first | exact rfl | exact trivial | exact sim_refl _ | (simp; done) | refine And.intro ?_ ?_))); (case q => exact hq.2))
      | cons x r =>
        simp only [List.length_cons] at hlen' hp25
        have hlen2 : ¬ ((r.length : Int) + 1) = A := by omega
        dsimp only [rlT, rlH, nzl, slV, slE]
        refine sx hXRl [] 4000 rfl (by (simp [-List.getD_eq_getElem?_getD, -List.length_eq_zero_iff, conjP, hai, ha0, cellOff] <;> (first | omega | ((repeat' (refine And.intro ?_ ?_)) <;> (first | omega | exact decide_eq_false (by omega) | exact decide_eq_true (by omega)))))) ?_
        refine sx hXRl [.T] 4000 rfl (by (simp [-List.getD_eq_getElem?_getD, -List.length_eq_zero_iff, conjP, hai, ha0, hm, hbv, hbz, hwb, hr, cellOff] <;> (first | omega | ((repeat' (refine And.intro ?_ ?_)) <;> (first | omega | exact decide_eq_false (by omega) | exact decide_eq_true (by omega)))))) ?_
        refine sx hXRl [.F] 4000 rfl (by (simp [-List.getD_eq_getElem?_getD, -List.length_eq_zero_iff, conjP, hm, hbv, hwb, hcF, cellOff] <;> (first | omega | ((repeat' (refine And.intro ?_ ?_)) <;> (first | omega | exact decide_eq_false (by omega) | exact decide_eq_true (by omega)))))) ?_
        refine sx hXRl [.F] 4000 rfl (by (simp [-List.getD_eq_getElem?_getD, -List.length_eq_zero_iff, conjP, hm, hbv, hwb, hr, hlen2, cellOff] <;> (first | omega | ((repeat' (refine And.intro ?_ ?_)) <;> (first | omega | exact decide_eq_false (by omega) | exact decide_eq_true (by omega)))))) ?_
        (simp only [hE]; refine back (x :: r ++ [b], rest, _) ⟨by rw [hL]; simp, ?q, hk0, hk1⟩ (by simp) _ _ _ (sub_of [0, 1, 2, 5] rfl rfl rfl rfl ?tt ?hh (by (repeat' (first | exact rfl | exact trivial | exact sim_refl _ | refine And.intro ?_ ?_))) (by (repeat' (first | exact rfl | exact trivial | exact sim_refl _ | refine And.intro ?_ ?_)))); (case tt => (repeat' (first | exact rfl | exact trivial | exact sim_refl _ | (simp; done) | refine And.intro ?_ ?_))); (case hh => (repeat' (first | exact rfl | exact trivial | exact sim_refl _ | (simp; done) | refine And.intro ?_ ?_))); (case q => exact hq.2))
    · have hlen' : ¬ (pre.length : Int) = B := by have : cntV A B 1 = B := rfl; omega
      cases pre with
      | nil =>
        simp only [List.length_nil] at hlen'
        have hlen2 : ¬ (0 : Int) = B := by simpa using hlen'
        dsimp only [rlT, rlH, nzl, slV, slE]
        refine sx hXRl [] 4000 rfl (by (simp [-List.getD_eq_getElem?_getD, -List.length_eq_zero_iff, conjP, hai, ha0, cellOff] <;> (first | omega | ((repeat' (refine And.intro ?_ ?_)) <;> (first | omega | exact decide_eq_false (by omega) | exact decide_eq_true (by omega)))))) ?_
        refine sx hXRl [.T] 4000 rfl (by (simp [-List.getD_eq_getElem?_getD, -List.length_eq_zero_iff, conjP, hai, ha0, hm, hbv, hbz, hwb, hr, cellOff] <;> (first | omega | ((repeat' (refine And.intro ?_ ?_)) <;> (first | omega | exact decide_eq_false (by omega) | exact decide_eq_true (by omega)))))) ?_
        refine sx hXRl [.F] 4000 rfl (by (simp [-List.getD_eq_getElem?_getD, -List.length_eq_zero_iff, conjP, hm, hbv, hwb, hcF, cellOff] <;> (first | omega | ((repeat' (refine And.intro ?_ ?_)) <;> (first | omega | exact decide_eq_false (by omega) | exact decide_eq_true (by omega)))))) ?_
        refine sx hXRl [.F] 4000 rfl (by (simp [-List.getD_eq_getElem?_getD, -List.length_eq_zero_iff, conjP, hm, hbv, hwb, hr, hlen2, cellOff] <;> (first | omega | ((repeat' (refine And.intro ?_ ?_)) <;> (first | omega | exact decide_eq_false (by omega) | exact decide_eq_true (by omega)))))) ?_
        (simp only [hE]; refine back ([b], rest, _) ⟨hL, ?q, hk0, hk1⟩ (by simp) _ _ _ (sub_of [0, 1, 2, 5] rfl rfl rfl rfl ?tt ?hh (by (repeat' (first | exact rfl | exact trivial | exact sim_refl _ | refine And.intro ?_ ?_))) (by (repeat' (first | exact rfl | exact trivial | exact sim_refl _ | refine And.intro ?_ ?_)))); (case tt => (repeat' (first | exact rfl | exact trivial | exact sim_refl _ | (simp; done) | refine And.intro ?_ ?_))); (case hh => (repeat' (first | exact rfl | exact trivial | exact sim_refl _ | (simp; done) | refine And.intro ?_ ?_))); (case q => exact hq.2))
      | cons x r =>
        simp only [List.length_cons] at hlen' hp25
        have hlen2 : ¬ ((r.length : Int) + 1) = B := by omega
        dsimp only [rlT, rlH, nzl, slV, slE]
        refine sx hXRl [] 4000 rfl (by (simp [-List.getD_eq_getElem?_getD, -List.length_eq_zero_iff, conjP, hai, ha0, cellOff] <;> (first | omega | ((repeat' (refine And.intro ?_ ?_)) <;> (first | omega | exact decide_eq_false (by omega) | exact decide_eq_true (by omega)))))) ?_
        refine sx hXRl [.T] 4000 rfl (by (simp [-List.getD_eq_getElem?_getD, -List.length_eq_zero_iff, conjP, hai, ha0, hm, hbv, hbz, hwb, hr, cellOff] <;> (first | omega | ((repeat' (refine And.intro ?_ ?_)) <;> (first | omega | exact decide_eq_false (by omega) | exact decide_eq_true (by omega)))))) ?_
        refine sx hXRl [.F] 4000 rfl (by (simp [-List.getD_eq_getElem?_getD, -List.length_eq_zero_iff, conjP, hm, hbv, hwb, hcF, cellOff] <;> (first | omega | ((repeat' (refine And.intro ?_ ?_)) <;> (first | omega | exact decide_eq_false (by omega) | exact decide_eq_true (by omega)))))) ?_
        refine sx hXRl [.F] 4000 rfl (by (simp [-List.getD_eq_getElem?_getD, -List.length_eq_zero_iff, conjP, hm, hbv, hwb, hr, hlen2, cellOff] <;> (first | omega | ((repeat' (refine And.intro ?_ ?_)) <;> (first | omega | exact decide_eq_false (by omega) | exact decide_eq_true (by omega)))))) ?_
        (simp only [hE]; refine back (x :: r ++ [b], rest, _) ⟨by rw [hL]; simp, ?q, hk0, hk1⟩ (by simp) _ _ _ (sub_of [0, 1, 2, 5] rfl rfl rfl rfl ?tt ?hh (by (repeat' (first | exact rfl | exact trivial | exact sim_refl _ | refine And.intro ?_ ?_))) (by (repeat' (first | exact rfl | exact trivial | exact sim_refl _ | refine And.intro ?_ ?_)))); (case tt => (repeat' (first | exact rfl | exact trivial | exact sim_refl _ | (simp; done) | refine And.intro ?_ ?_))); (case hh => (repeat' (first | exact rfl | exact trivial | exact sim_refl _ | (simp; done) | refine And.intro ?_ ?_))); (case q => exact hq.2))
set_option maxHeartbeats 8000000 in
theorem rlist_fn : Gives Try.prog 19 [C9 1 4 1 2 4 A 6 B 2, .sbuf 0 1 0 W.length, .int .i64 c] [wBuf W] (Is (toldV (nzl L) 1) [wBuf W, slE (nzl L) .i64 3]) := by
  have hsz : sizeV 1 4 1 4 A 6 B = W.length := by have := szP_eq A B; rw [hl, ← this]
  have hc0 : ¬ c < 0 := by omega
  have hc1 : ¬ 1 < c := by omega
  refine gives_x hXRl (fn := Try.f19) rfl rfl rfl rfl fun ρ w => ?_
  have key := rlist_loop hr hl bd hc hch hcl hn (ρ := ρ) (w := w)
  refine sxb hXRl [.r 7] [] 4000 rfl (by (simp [-List.getD_eq_getElem?_getD, -List.length_eq_zero_iff, conjP] <;> (first | omega | ((repeat' (refine And.intro ?_ ?_)) <;> (first | omega | exact decide_eq_false (by omega) | exact decide_eq_true (by omega)))))) ?_
  refine sxb hXRl [.r 7] [.F] 4000 rfl (by (simp [-List.getD_eq_getElem?_getD, -List.length_eq_zero_iff, conjP, addOP, hr] <;> (first | omega | ((repeat' (refine And.intro ?_ ?_)) <;> (first | omega | exact decide_eq_false (by omega) | exact decide_eq_true (by omega)))))) ?_
  refine sxb hXRl [.r 7] [.F] 4000 rfl (by (simp [-List.getD_eq_getElem?_getD, -List.length_eq_zero_iff, conjP, addOP, hc0] <;> (first | omega | ((repeat' (refine And.intro ?_ ?_)) <;> (first | omega | exact decide_eq_false (by omega) | exact decide_eq_true (by omega)))))) ?_
  refine sxb hXRl [.r 7] [.F] 4000 rfl (by (simp [-List.getD_eq_getElem?_getD, -List.length_eq_zero_iff, conjP, hr, hc1] <;> (first | omega | ((repeat' (refine And.intro ?_ ?_)) <;> (first | omega | exact decide_eq_false (by omega) | exact decide_eq_true (by omega)))))) ?_
  refine sxb hXRl [.r 7] [.F] 4000 rfl (by (simp [-List.getD_eq_getElem?_getD, -List.length_eq_zero_iff, conjP, addOP, hsz] <;> (first | omega | ((repeat' (refine And.intro ?_ ?_)) <;> (first | omega | exact decide_eq_false (by omega) | exact decide_eq_true (by omega)))))) ?_
  (refine ss_sub hXRl (T' := rlT0 W c) (H' := rlH A B W []) [0, 1, 2, 9] rfl rfl rfl rfl (by (repeat' (first | exact rfl | exact trivial | exact sim_refl _ | refine And.intro ?_ ?_))) (by (repeat' (first | exact rfl | exact trivial | exact sim_refl _ | refine And.intro ?_ ?_))) (by (repeat' (first | exact rfl | exact trivial | exact sim_refl _ | refine And.intro ?_ ?_))) (by (repeat' (first | exact rfl | exact trivial | exact sim_refl _ | refine And.intro ?_ ?_))) ?_; exact key)
end
/-- One list. -/
def rlistS (A B : Int) (L : List Int) : Hx.Spec := fun args H => match args with
  | [.agg cfg, .sbuf h 1 0 l, .int .i64 c] => match getH H h, nums[H.length]? with
    | some (.buf .u64 W 1 70), some n => some ([cfg = [.int .i64 1, .int .i64 4, .int .i64 1, .int .i64 2, .int .i64 4, .int .i64 A, .int .i64 6, .int .i64 B, .int .i64 2], l = W.length, rightB 1 4 1 2 4 A 6 B 2 = true, (W.length : Int) = 16 + A * 5 + B * 7, ∀ j, 0 ≤ W.getD j 0 ∧ W.getD j 0 < 18446744073709551616, c = 0 ∨ c = 1, chn A B W (W.getD (3 + c).toNat 0) L, ∀ b ∈ L, classV A B b = c, L.length ≤ (cntV A B c).toNat], toldV (nzl L) n, H ++ [slE (nzl L) .i64 3])
    | _, _ => none
  | _ => none
theorem rlistS_ok {A B : Int} {L : List Int} {args : List SV} {H : List HE} {ob : List Prop} {V : SV} {Lh : List HE} (hs : rlistS A B L args H = some (ob, V, Lh)) (ho : AllP ob) : Gives Try.prog 19 args H (Is V Lh) := by
  unfold rlistS at hs
  split at hs
  case h_2 => simp at hs
  split at hs
  case h_2 => simp at hs
  rename_i _ cfg h l c _ _ W n hg hn
  have hn' := nums_get _ _ hn
  subst hn'
  simp only [Option.some.injEq, Prod.mk.injEq] at hs
  obtain ⟨rfl, rfl, rfl⟩ := hs
  simp only [AllP, List.mem_cons, List.not_mem_nil, or_false, forall_eq_or_imp, forall_eq] at ho
  obtain ⟨rfl, rfl, o3, o4, o5, o6, o7, o8, o9⟩ := ho
  have hF := rlist_fn o3 o4 o5 o6 o7 o8 o9
  have := frame1 (N := [slE (nzl L) .i64 3]) (H := H) (h0 := h) ⟨_, hTE⟩ hF rfl rfl rfl hg (by cases L <;> rfl)
  have e : SO.ren (nm [h] H) (SO.buf .u64 W 1 70) = SO.buf .u64 W 1 70 := rfl
  rw [e, set_self hg] at this
  have e2 : (toldV (nzl L) 1).ren (nm [h] H) = toldV (nzl L) H.length := by cases L <;> rfl
  have e3 : [slE (nzl L) .i64 3].map (HE.ren (nm [h] H)) = [slE (nzl L) .i64 3] := by cases L <;> rfl
  rw [e2, e3] at this
  exact this
end Go.Proofs.Ytmghcelohnlceaa
