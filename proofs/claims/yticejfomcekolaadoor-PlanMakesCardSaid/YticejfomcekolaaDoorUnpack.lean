/- The config that a word is. -/
import Derived.Test.YticejfomcekolaaDoorCfgD
namespace Go.Proofs.YticejfomcekolaaDoor
open Go Go.Hx
set_option maxRecDepth 8000


abbrev dg (w a : Int) : Int := getV w a 7
theorem dg0 (w : Int) : dg w 0 = w % 128 := by simp [dg, getV]
theorem dg_lo (w a : Int) : 0 ≤ dg w a ∧ dg w a < 128 := by
  unfold dg getV
  have : (2 : Int) ^ (7 : Int).toNat = 128 := rfl
  rw [this]
  omega
theorem pack_dg (w : Int) : packV (dg w 0) (dg w 7) (dg w 14) (dg w 21) (dg w 35) (dg w 42) (dg w 49) (dg w 56) (dg w 28) = w % 9223372036854775808 := by
  have e1 : dg w 7 = w / 128 % 128 := rfl
  have e2 : dg w 14 = w / 16384 % 128 := rfl
  have e3 : dg w 21 = w / 2097152 % 128 := rfl
  have e4 : dg w 28 = w / 268435456 % 128 := rfl
  have e5 : dg w 35 = w / 34359738368 % 128 := rfl
  have e6 : dg w 42 = w / 4398046511104 % 128 := rfl
  have e7 : dg w 49 = w / 562949953421312 % 128 := rfl
  have e8 : dg w 56 = w / 72057594037927936 % 128 := rfl
  rw [dg0, e1, e2, e3, e4, e5, e6, e7, e8]
  unfold packV
  omega
theorem dg_pack {a0 a1 a2 a3 a4 a5 a6 a7 a8 : Int} (hr : rightB a0 a1 a2 a3 a4 a5 a6 a7 a8 = true) :
    dg (packV a0 a1 a2 a3 a4 a5 a6 a7 a8) 0 = a0 ∧ dg (packV a0 a1 a2 a3 a4 a5 a6 a7 a8) 7 = a1 ∧ dg (packV a0 a1 a2 a3 a4 a5 a6 a7 a8) 14 = a2 ∧ dg (packV a0 a1 a2 a3 a4 a5 a6 a7 a8) 21 = a3 ∧ dg (packV a0 a1 a2 a3 a4 a5 a6 a7 a8) 28 = a8 ∧ dg (packV a0 a1 a2 a3 a4 a5 a6 a7 a8) 35 = a4 ∧ dg (packV a0 a1 a2 a3 a4 a5 a6 a7 a8) 42 = a5 ∧ dg (packV a0 a1 a2 a3 a4 a5 a6 a7 a8) 49 = a6 ∧ dg (packV a0 a1 a2 a3 a4 a5 a6 a7 a8) 56 = a7 := by
  have hr' := right_iff.1 hr
  have e1 : ∀ w : Int, dg w 7 = w / 128 % 128 := fun _ => rfl
  have e2 : ∀ w : Int, dg w 14 = w / 16384 % 128 := fun _ => rfl
  have e3 : ∀ w : Int, dg w 21 = w / 2097152 % 128 := fun _ => rfl
  have e4 : ∀ w : Int, dg w 28 = w / 268435456 % 128 := fun _ => rfl
  have e5 : ∀ w : Int, dg w 35 = w / 34359738368 % 128 := fun _ => rfl
  have e6 : ∀ w : Int, dg w 42 = w / 4398046511104 % 128 := fun _ => rfl
  have e7 : ∀ w : Int, dg w 49 = w / 562949953421312 % 128 := fun _ => rfl
  have e8 : ∀ w : Int, dg w 56 = w / 72057594037927936 % 128 := fun _ => rfl
  rw [dg0, e1, e2, e3, e4, e5, e6, e7, e8]
  unfold packV
  refine ⟨?_, ?_, ?_, ?_, ?_, ?_, ?_, ?_, ?_⟩ <;> omega
theorem pack_lt {a0 a1 a2 a3 a4 a5 a6 a7 a8 : Int} (hr : rightB a0 a1 a2 a3 a4 a5 a6 a7 a8 = true) : 0 ≤ packV a0 a1 a2 a3 a4 a5 a6 a7 a8 ∧ packV a0 a1 a2 a3 a4 a5 a6 a7 a8 < 9223372036854775808 := by
  have hr' := right_iff.1 hr
  unfold packV
  omega
/-- Is a word a config's? -/
def unB (w : Int) : Prop := rightB (dg w 0) (dg w 7) (dg w 14) (dg w 21) (dg w 35) (dg w 42) (dg w 49) (dg w 56) (dg w 28) = true ∧ w < 9223372036854775808
abbrev unC (w : Int) : SV := C9 (dg w 0) (dg w 7) (dg w 14) (dg w 21) (dg w 35) (dg w 42) (dg w 49) (dg w 56) (dg w 28)
theorem unB_pack {a0 a1 a2 a3 a4 a5 a6 a7 a8 : Int} (hr : rightB a0 a1 a2 a3 a4 a5 a6 a7 a8 = true) : unB (packV a0 a1 a2 a3 a4 a5 a6 a7 a8) := by
  obtain ⟨e0, e1, e2, e3, e4, e5, e6, e7, e8⟩ := dg_pack hr
  refine ⟨?_, (pack_lt hr).2⟩
  rw [e0, e1, e2, e3, e4, e5, e6, e7, e8]; exact hr

def ctU : Nat → Option Hx.Spec
  | 51 => some (pureS rightS)
  | 27 => some (pureS packS)
  | 49 => some (pureS getS)
  | _ => none
theorem ctU_ok : ∀ f s args H ob V L, ctU f = some s → s args H = some (ob, V, L) → AllP ob → Gives Tryd.prog f args H (Is V L) := by
  intro f s args H ob V L h hs ho
  unfold ctU at h
  split at h
  · simp at h; subst h; exact pureS_ok ⟨_, hTE⟩ (rightS_ok right51) hs ho
  · simp at h; subst h; exact pureS_ok ⟨_, hTE⟩ packS_ok hs ho
  · simp at h; subst h; exact pureS_ok ⟨_, hTE⟩ getS_ok hs ho
  · simp at h
noncomputable def XU : Tabs := tabs tr ft xt (fun _ => none) ctU 20
theorem hXU : TOk Tryd.prog XU := ⟨hTE, hFT, ctU_ok, hXT, fun t ks h => by simp [XU, tabs] at h, mixed⟩

theorem list9 {a0 a1 a2 a3 a4 a5 a6 a7 a8 b0 b1 b2 b3 b4 b5 b6 b7 b8 : Int} (h0 : a0 = b0) (h1 : a1 = b1) (h2 : a2 = b2) (h3 : a3 = b3) (h4 : a4 = b4) (h5 : a5 = b5) (h6 : a6 = b6) (h7 : a7 = b7) (h8 : a8 = b8) :
    [a0, a1, a2, a3, a4, a5, a6, a7, a8] = [b0, b1, b2, b3, b4, b5, b6, b7, b8] := by rw [h0, h1, h2, h3, h4, h5, h6, h7, h8]
def unT (w : Int) : List (Nat × SV) := [(0, .int .u64 w), (2, .ptr 0 0), (3, .niliface), (4, .ptr 1 0)]
def unH (w : Int) : List HE := [.obj (.cells [.int .i64 0, .int .i64 0, .int .i64 0, .int .i64 0, .int .i64 0, .int .i64 0, .int .i64 0, .int .i64 0, .int .i64 0] 56), .obj (.ints .i64 [dg w 0, dg w 7, dg w 14, dg w 21, dg w 28, dg w 35, dg w 42, dg w 49, dg w 56] 50)]
set_option maxHeartbeats 8000000 in
theorem unpack_yes {w : Int} (h0 : 0 ≤ w) (h1 : w < 18446744073709551616) (hu : unB w) : Gives Tryd.prog 26 [.int .u64 w] [] (Is (.tup [unC w, .niliface]) []) := by
  obtain ⟨hr, hlt⟩ := hu
  have hp : packV (dg w 0) (dg w 7) (dg w 14) (dg w 21) (dg w 35) (dg w 42) (dg w 49) (dg w 56) (dg w 28) = w := by rw [pack_dg]; omega
  have u : ∀ a, IntKind.i64.wrap (getV w a 7) = getV w a 7 := fun a => by have := dg_lo w a; unfold dg at this; exact wi64 (by omega) (by omega)
  refine gives_x hXU (fn := Tryd.f26) rfl rfl rfl rfl fun ρ w0 => ?_
  refine sxb hXU [.r 7] (List.replicate 10 .C) 4000 rfl (by simp [conjP, IntKind.wrap_i64, h0, h1]) ?_
  refine ss_sub hXU (T' := unT w) (H' := unH w) [0, 1] rfl rfl rfl rfl (by (repeat' (first | exact rfl | exact trivial | exact sim_refl _ | refine And.intro ?_ ?_))) ⟨by (repeat' (first | exact rfl | exact trivial | exact sim_refl _ | refine And.intro ?_ ?_)), ⟨rfl, list9 (u 0) (u 7) (u 14) (u 21) (u 28) (u 35) (u 42) (u 49) (u 56), rfl⟩, trivial⟩ (by (repeat' (first | exact rfl | exact trivial | exact sim_refl _ | refine And.intro ?_ ?_))) (by (repeat' (first | exact rfl | exact trivial | exact sim_refl _ | refine And.intro ?_ ?_))) ?_
  refine sx hXU [] 4000 rfl (by (simp [-List.getD_eq_getElem?_getD, -List.length_eq_zero_iff, conjP] <;> (first | omega | ((repeat' (refine And.intro ?_ ?_)) <;> (first | omega | exact decide_eq_false (by omega) | exact decide_eq_true (by omega)))))) ?_
  refine sx hXU [.F] 4000 rfl (by (simp [-List.getD_eq_getElem?_getD, -List.length_eq_zero_iff, conjP, addOP, hr, List.getD_cons_zero, List.getD_cons_succ] <;> (first | omega | ((repeat' (refine And.intro ?_ ?_)) <;> (first | omega | exact decide_eq_false (by omega) | exact decide_eq_true (by omega)))))) ?_
  refine sx hXU [.F] 4000 rfl (by (simp [-List.getD_eq_getElem?_getD, -List.length_eq_zero_iff, conjP, addOP, hr, hp, List.getD_cons_zero, List.getD_cons_succ] <;> (first | omega | ((repeat' (refine And.intro ?_ ?_)) <;> (first | omega | exact decide_eq_false (by omega) | exact decide_eq_true (by omega)))))) ?_
  (exact ss_end hXU [] rfl rfl trivial rfl rfl rfl rfl (by (repeat' (first | exact rfl | exact trivial | exact sim_refl _ | refine And.intro ?_ ?_))) trivial (by (repeat' (first | exact rfl | exact trivial | exact sim_refl _ | refine And.intro ?_ ?_))) trivial)
set_option maxHeartbeats 8000000 in
theorem unpack_no {w : Int} (h0 : 0 ≤ w) (h1 : w < 18446744073709551616) (hu : ¬ unB w) : Gives Tryd.prog 26 [.int .u64 w] [] (Is (.tup [C9 0 0 0 0 0 0 0 0 0, .iface 32 (.int .i64 10)]) []) := by
  have u : ∀ a, IntKind.i64.wrap (getV w a 7) = getV w a 7 := fun a => by have := dg_lo w a; unfold dg at this; exact wi64 (by omega) (by omega)
  refine gives_x hXU (fn := Tryd.f26) rfl rfl rfl rfl fun ρ w0 => ?_
  refine sxb hXU [.r 7] (List.replicate 10 .C) 4000 rfl (by simp [conjP, IntKind.wrap_i64, h0, h1]) ?_
  refine ss_sub hXU (T' := unT w) (H' := unH w) [0, 1] rfl rfl rfl rfl (by (repeat' (first | exact rfl | exact trivial | exact sim_refl _ | refine And.intro ?_ ?_))) ⟨by (repeat' (first | exact rfl | exact trivial | exact sim_refl _ | refine And.intro ?_ ?_)), ⟨rfl, list9 (u 0) (u 7) (u 14) (u 21) (u 28) (u 35) (u 42) (u 49) (u 56), rfl⟩, trivial⟩ (by (repeat' (first | exact rfl | exact trivial | exact sim_refl _ | refine And.intro ?_ ?_))) (by (repeat' (first | exact rfl | exact trivial | exact sim_refl _ | refine And.intro ?_ ?_))) ?_
  rcases Bool.eq_false_or_eq_true (rightB (dg w 0) (dg w 7) (dg w 14) (dg w 21) (dg w 35) (dg w 42) (dg w 49) (dg w 56) (dg w 28)) with hr | hr
  · have hp : ¬ packV (dg w 0) (dg w 7) (dg w 14) (dg w 21) (dg w 35) (dg w 42) (dg w 49) (dg w 56) (dg w 28) = w := fun e => hu ⟨hr, by rw [pack_dg] at e; omega⟩
    refine sx hXU [] 4000 rfl (by (simp [-List.getD_eq_getElem?_getD, -List.length_eq_zero_iff, conjP] <;> (first | omega | ((repeat' (refine And.intro ?_ ?_)) <;> (first | omega | exact decide_eq_false (by omega) | exact decide_eq_true (by omega)))))) ?_
    refine sx hXU [.F] 4000 rfl (by (simp [-List.getD_eq_getElem?_getD, -List.length_eq_zero_iff, conjP, addOP, hr, List.getD_cons_zero, List.getD_cons_succ] <;> (first | omega | ((repeat' (refine And.intro ?_ ?_)) <;> (first | omega | exact decide_eq_false (by omega) | exact decide_eq_true (by omega)))))) ?_
    refine sx hXU [.T] 4000 rfl (by (simp [-List.getD_eq_getElem?_getD, -List.length_eq_zero_iff, conjP, addOP, hr, hp, List.getD_cons_zero, List.getD_cons_succ] <;> (first | omega | ((repeat' (refine And.intro ?_ ?_)) <;> (first | omega | exact decide_eq_false (by omega) | exact decide_eq_true (by omega)))))) ?_
    refine sx hXU [.F] 4000 rfl (by (simp [-List.getD_eq_getElem?_getD, -List.length_eq_zero_iff, conjP, addOP] <;> (first | omega | ((repeat' (refine And.intro ?_ ?_)) <;> (first | omega | exact decide_eq_false (by omega) | exact decide_eq_true (by omega)))))) ?_
    (exact ss_end hXU [] rfl rfl trivial rfl rfl rfl rfl (by (repeat' (first | exact rfl | exact trivial | exact sim_refl _ | refine And.intro ?_ ?_))) trivial (by (repeat' (first | exact rfl | exact trivial | exact sim_refl _ | refine And.intro ?_ ?_))) trivial)
  · refine sx hXU [] 4000 rfl (by (simp [-List.getD_eq_getElem?_getD, -List.length_eq_zero_iff, conjP] <;> (first | omega | ((repeat' (refine And.intro ?_ ?_)) <;> (first | omega | exact decide_eq_false (by omega) | exact decide_eq_true (by omega)))))) ?_
    refine sx hXU [.T] 4000 rfl (by (simp [-List.getD_eq_getElem?_getD, -List.length_eq_zero_iff, conjP, addOP, hr, List.getD_cons_zero, List.getD_cons_succ] <;> (first | omega | ((repeat' (refine And.intro ?_ ?_)) <;> (first | omega | exact decide_eq_false (by omega) | exact decide_eq_true (by omega)))))) ?_
    refine sx hXU [.F] 4000 rfl (by (simp [-List.getD_eq_getElem?_getD, -List.length_eq_zero_iff, conjP, addOP] <;> (first | omega | ((repeat' (refine And.intro ?_ ?_)) <;> (first | omega | exact decide_eq_false (by omega) | exact decide_eq_true (by omega)))))) ?_
    (exact ss_end hXU [] rfl rfl trivial rfl rfl rfl rfl (by (repeat' (first | exact rfl | exact trivial | exact sim_refl _ | refine And.intro ?_ ?_))) trivial (by (repeat' (first | exact rfl | exact trivial | exact sim_refl _ | refine And.intro ?_ ?_))) trivial)
end Go.Proofs.YticejfomcekolaaDoor
