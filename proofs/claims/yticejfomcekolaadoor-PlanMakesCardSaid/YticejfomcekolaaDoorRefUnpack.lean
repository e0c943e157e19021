/- The config that a word is: the document's own. -/
import Derived.Test.YticejfomcekolaaDoorUnpack
namespace Go.Proofs.YticejfomcekolaaDoor
open Go Go.Hx
set_option maxRecDepth 8000

def ctV : Nat → Option Hx.Spec
  | 35 => some (pureS rightS)
  | _ => none
theorem ctV_ok : ∀ f s args H ob V L, ctV f = some s → s args H = some (ob, V, L) → AllP ob → Gives Tryd.prog f args H (Is V L) := by
  intro f s args H ob V L h hs ho
  unfold ctV at h
  split at h
  · simp at h; subst h; exact pureS_ok ⟨_, hTE⟩ (rightS_ok right35) hs ho
  · simp at h
noncomputable def XV : Tabs := tabs tr ft xt (fun _ => none) ctV 20
theorem hXV : TOk Tryd.prog XV := ⟨hTE, hFT, ctV_ok, hXT, fun t ks h => by simp [XV, tabs] at h, mixed⟩

def runT (w : Int) : List (Nat × SV) := [(0, .int .u64 (w / 9223372036854775808)), (2, .ptr 0 0), (3, .ff), (4, .sbuf 1 1 0 9)]
def runH (w : Int) : List HE := [.obj (.cells [.int .i64 0, .int .i64 0, .int .i64 0, .int .i64 0, .int .i64 0, .int .i64 0, .int .i64 0, .int .i64 0, .int .i64 0] 56), .obj (.buf .i64 [dg w 0, dg w 7, dg w 14, dg w 21, dg w 28, dg w 35, dg w 42, dg w 49, dg w 56] 1 3)]
set_option maxHeartbeats 8000000 in
theorem runpack_yes {w : Int} (h0 : 0 ≤ w) (h1 : w < 18446744073709551616) (hu : unB w) : Gives Tryd.prog 36 [.int .u64 w] [] (Is (.tup [unC w, .tt]) []) := by
  obtain ⟨hr, hlt⟩ := hu
  have t0 : Int.tdiv w 128 = w / 128 := by rw [Int.tdiv_eq_ediv_of_nonneg (by omega)]
  have m0 : Int.tmod w 128 = dg w 0 := by rw [Int.tmod_eq_emod_of_nonneg (by omega)]; exact (dg0 w).symm
  have v0 : IntKind.u64.wrap (w / 128) = w / 128 := wu7 (by omega) (by omega)
  have d0 : IntKind.u64.wrap (dg w 0) = dg w 0 := by have := dg_lo w 0; exact wu7 (by omega) (by omega)
  have i0 : IntKind.i64.wrap (dg w 0) = dg w 0 := by have := dg_lo w 0; exact wi64 (by omega) (by omega)
  have t1 : Int.tdiv (w / 128) 128 = w / 16384 := by rw [Int.tdiv_eq_ediv_of_nonneg (by omega)]; omega
  have m1 : Int.tmod (w / 128) 128 = dg w 7 := by rw [Int.tmod_eq_emod_of_nonneg (by omega)]; rfl
  have v1 : IntKind.u64.wrap (w / 16384) = w / 16384 := wu7 (by omega) (by omega)
  have d1 : IntKind.u64.wrap (dg w 7) = dg w 7 := by have := dg_lo w 7; exact wu7 (by omega) (by omega)
  have i1 : IntKind.i64.wrap (dg w 7) = dg w 7 := by have := dg_lo w 7; exact wi64 (by omega) (by omega)
  have t2 : Int.tdiv (w / 16384) 128 = w / 2097152 := by rw [Int.tdiv_eq_ediv_of_nonneg (by omega)]; omega
  have m2 : Int.tmod (w / 16384) 128 = dg w 14 := by rw [Int.tmod_eq_emod_of_nonneg (by omega)]; rfl
  have v2 : IntKind.u64.wrap (w / 2097152) = w / 2097152 := wu7 (by omega) (by omega)
  have d2 : IntKind.u64.wrap (dg w 14) = dg w 14 := by have := dg_lo w 14; exact wu7 (by omega) (by omega)
  have i2 : IntKind.i64.wrap (dg w 14) = dg w 14 := by have := dg_lo w 14; exact wi64 (by omega) (by omega)
  have t3 : Int.tdiv (w / 2097152) 128 = w / 268435456 := by rw [Int.tdiv_eq_ediv_of_nonneg (by omega)]; omega
  have m3 : Int.tmod (w / 2097152) 128 = dg w 21 := by rw [Int.tmod_eq_emod_of_nonneg (by omega)]; rfl
  have v3 : IntKind.u64.wrap (w / 268435456) = w / 268435456 := wu7 (by omega) (by omega)
  have d3 : IntKind.u64.wrap (dg w 21) = dg w 21 := by have := dg_lo w 21; exact wu7 (by omega) (by omega)
  have i3 : IntKind.i64.wrap (dg w 21) = dg w 21 := by have := dg_lo w 21; exact wi64 (by omega) (by omega)
  have t4 : Int.tdiv (w / 268435456) 128 = w / 34359738368 := by rw [Int.tdiv_eq_ediv_of_nonneg (by omega)]; omega
  have m4 : Int.tmod (w / 268435456) 128 = dg w 28 := by rw [Int.tmod_eq_emod_of_nonneg (by omega)]; rfl
  have v4 : IntKind.u64.wrap (w / 34359738368) = w / 34359738368 := wu7 (by omega) (by omega)
  have d4 : IntKind.u64.wrap (dg w 28) = dg w 28 := by have := dg_lo w 28; exact wu7 (by omega) (by omega)
  have i4 : IntKind.i64.wrap (dg w 28) = dg w 28 := by have := dg_lo w 28; exact wi64 (by omega) (by omega)
  have t5 : Int.tdiv (w / 34359738368) 128 = w / 4398046511104 := by rw [Int.tdiv_eq_ediv_of_nonneg (by omega)]; omega
  have m5 : Int.tmod (w / 34359738368) 128 = dg w 35 := by rw [Int.tmod_eq_emod_of_nonneg (by omega)]; rfl
  have v5 : IntKind.u64.wrap (w / 4398046511104) = w / 4398046511104 := wu7 (by omega) (by omega)
  have d5 : IntKind.u64.wrap (dg w 35) = dg w 35 := by have := dg_lo w 35; exact wu7 (by omega) (by omega)
  have i5 : IntKind.i64.wrap (dg w 35) = dg w 35 := by have := dg_lo w 35; exact wi64 (by omega) (by omega)
  have t6 : Int.tdiv (w / 4398046511104) 128 = w / 562949953421312 := by rw [Int.tdiv_eq_ediv_of_nonneg (by omega)]; omega
  have m6 : Int.tmod (w / 4398046511104) 128 = dg w 42 := by rw [Int.tmod_eq_emod_of_nonneg (by omega)]; rfl
  have v6 : IntKind.u64.wrap (w / 562949953421312) = w / 562949953421312 := wu7 (by omega) (by omega)
  have d6 : IntKind.u64.wrap (dg w 42) = dg w 42 := by have := dg_lo w 42; exact wu7 (by omega) (by omega)
  have i6 : IntKind.i64.wrap (dg w 42) = dg w 42 := by have := dg_lo w 42; exact wi64 (by omega) (by omega)
  have t7 : Int.tdiv (w / 562949953421312) 128 = w / 72057594037927936 := by rw [Int.tdiv_eq_ediv_of_nonneg (by omega)]; omega
  have m7 : Int.tmod (w / 562949953421312) 128 = dg w 49 := by rw [Int.tmod_eq_emod_of_nonneg (by omega)]; rfl
  have v7 : IntKind.u64.wrap (w / 72057594037927936) = w / 72057594037927936 := wu7 (by omega) (by omega)
  have d7 : IntKind.u64.wrap (dg w 49) = dg w 49 := by have := dg_lo w 49; exact wu7 (by omega) (by omega)
  have i7 : IntKind.i64.wrap (dg w 49) = dg w 49 := by have := dg_lo w 49; exact wi64 (by omega) (by omega)
  have t8 : Int.tdiv (w / 72057594037927936) 128 = w / 9223372036854775808 := by rw [Int.tdiv_eq_ediv_of_nonneg (by omega)]; omega
  have m8 : Int.tmod (w / 72057594037927936) 128 = dg w 56 := by rw [Int.tmod_eq_emod_of_nonneg (by omega)]; rfl
  have v8 : IntKind.u64.wrap (w / 9223372036854775808) = w / 9223372036854775808 := wu7 (by omega) (by omega)
  have d8 : IntKind.u64.wrap (dg w 56) = dg w 56 := by have := dg_lo w 56; exact wu7 (by omega) (by omega)
  have i8 : IntKind.i64.wrap (dg w 56) = dg w 56 := by have := dg_lo w 56; exact wi64 (by omega) (by omega)
  refine gives_x hXV (fn := Tryd.f36) rfl rfl rfl rfl fun ρ w0 => ?_
  refine sxb hXV [.r 7] (List.replicate 10 .C) 4000 rfl (by simp [conjP, IntKind.wrap_i64, mulS_eq]) ?_
  refine ss_sub hXV (T' := runT w) (H' := runH w) [0, 18] rfl rfl rfl rfl ⟨⟨rfl, by simp only [t0, v0, t1, v1, t2, v2, t3, v3, t4, v4, t5, v5, t6, v6, t7, v7, t8, v8]⟩, by (repeat' (first | exact rfl | exact trivial | exact sim_refl _ | refine And.intro ?_ ?_)), by (repeat' (first | exact rfl | exact trivial | exact sim_refl _ | refine And.intro ?_ ?_)), by (repeat' (first | exact rfl | exact trivial | exact sim_refl _ | refine And.intro ?_ ?_)), trivial⟩ ⟨by (repeat' (first | exact rfl | exact trivial | exact sim_refl _ | refine And.intro ?_ ?_)), ⟨rfl, list9 (by simp only [m0, i0]) (by simp only [t0, v0, m1, i1]) (by simp only [t0, v0, t1, v1, m2, i2]) (by simp only [t0, v0, t1, v1, t2, v2, m3, i3]) (by simp only [t0, v0, t1, v1, t2, v2, t3, v3, m4, i4]) (by simp only [t0, v0, t1, v1, t2, v2, t3, v3, t4, v4, m5, i5]) (by simp only [t0, v0, t1, v1, t2, v2, t3, v3, t4, v4, t5, v5, m6, i6]) (by simp only [t0, v0, t1, v1, t2, v2, t3, v3, t4, v4, t5, v5, t6, v6, m7, i7]) (by simp only [t0, v0, t1, v1, t2, v2, t3, v3, t4, v4, t5, v5, t6, v6, t7, v7, m8, i8]), rfl, rfl⟩, trivial⟩ (by (repeat' (first | exact rfl | exact trivial | exact sim_refl _ | refine And.intro ?_ ?_))) (by (repeat' (first | exact rfl | exact trivial | exact sim_refl _ | refine And.intro ?_ ?_))) ?_
  have hz : w / 9223372036854775808 = 0 := by omega
  refine sx hXV [] 4000 rfl (by (simp [-List.getD_eq_getElem?_getD, -List.length_eq_zero_iff, conjP, getH, HE.so, cellOff] <;> (first | omega | ((repeat' (refine And.intro ?_ ?_)) <;> (first | omega | exact decide_eq_false (by omega) | exact decide_eq_true (by omega)))))) ?_
  refine sx hXV [.F] 4000 rfl (by (simp [-List.getD_eq_getElem?_getD, -List.length_eq_zero_iff, conjP, addOP, hr, List.getD_cons_zero, List.getD_cons_succ, cellOff] <;> (first | omega | ((repeat' (refine And.intro ?_ ?_)) <;> (first | omega | exact decide_eq_false (by omega) | exact decide_eq_true (by omega)))))) ?_
  refine sx hXV [.F] 4000 rfl (by (simp [-List.getD_eq_getElem?_getD, -List.length_eq_zero_iff, conjP, addOP, hz] <;> (first | omega | ((repeat' (refine And.intro ?_ ?_)) <;> (first | omega | exact decide_eq_false (by omega) | exact decide_eq_true (by omega)))))) ?_
  (exact ss_end hXV [] rfl rfl trivial rfl rfl rfl rfl (by (repeat' (first | exact rfl | exact trivial | exact sim_refl _ | refine And.intro ?_ ?_))) trivial (by (repeat' (first | exact rfl | exact trivial | exact sim_refl _ | refine And.intro ?_ ?_))) trivial)
set_option maxHeartbeats 8000000 in
theorem runpack_no {w : Int} (h0 : 0 ≤ w) (h1 : w < 18446744073709551616) (hu : ¬ unB w) : Gives Tryd.prog 36 [.int .u64 w] [] (Is (.tup [C9 0 0 0 0 0 0 0 0 0, .ff]) []) := by
  have t0 : Int.tdiv w 128 = w / 128 := by rw [Int.tdiv_eq_ediv_of_nonneg (by omega)]
  have m0 : Int.tmod w 128 = dg w 0 := by rw [Int.tmod_eq_emod_of_nonneg (by omega)]; exact (dg0 w).symm
  have v0 : IntKind.u64.wrap (w / 128) = w / 128 := wu7 (by omega) (by omega)
  have d0 : IntKind.u64.wrap (dg w 0) = dg w 0 := by have := dg_lo w 0; exact wu7 (by omega) (by omega)
  have i0 : IntKind.i64.wrap (dg w 0) = dg w 0 := by have := dg_lo w 0; exact wi64 (by omega) (by omega)
  have t1 : Int.tdiv (w / 128) 128 = w / 16384 := by rw [Int.tdiv_eq_ediv_of_nonneg (by omega)]; omega
  have m1 : Int.tmod (w / 128) 128 = dg w 7 := by rw [Int.tmod_eq_emod_of_nonneg (by omega)]; rfl
  have v1 : IntKind.u64.wrap (w / 16384) = w / 16384 := wu7 (by omega) (by omega)
  have d1 : IntKind.u64.wrap (dg w 7) = dg w 7 := by have := dg_lo w 7; exact wu7 (by omega) (by omega)
  have i1 : IntKind.i64.wrap (dg w 7) = dg w 7 := by have := dg_lo w 7; exact wi64 (by omega) (by omega)
  have t2 : Int.tdiv (w / 16384) 128 = w / 2097152 := by rw [Int.tdiv_eq_ediv_of_nonneg (by omega)]; omega
  have m2 : Int.tmod (w / 16384) 128 = dg w 14 := by rw [Int.tmod_eq_emod_of_nonneg (by omega)]; rfl
  have v2 : IntKind.u64.wrap (w / 2097152) = w / 2097152 := wu7 (by omega) (by omega)
  have d2 : IntKind.u64.wrap (dg w 14) = dg w 14 := by have := dg_lo w 14; exact wu7 (by omega) (by omega)
  have i2 : IntKind.i64.wrap (dg w 14) = dg w 14 := by have := dg_lo w 14; exact wi64 (by omega) (by omega)
  have t3 : Int.tdiv (w / 2097152) 128 = w / 268435456 := by rw [Int.tdiv_eq_ediv_of_nonneg (by omega)]; omega
  have m3 : Int.tmod (w / 2097152) 128 = dg w 21 := by rw [Int.tmod_eq_emod_of_nonneg (by omega)]; rfl
  have v3 : IntKind.u64.wrap (w / 268435456) = w / 268435456 := wu7 (by omega) (by omega)
  have d3 : IntKind.u64.wrap (dg w 21) = dg w 21 := by have := dg_lo w 21; exact wu7 (by omega) (by omega)
  have i3 : IntKind.i64.wrap (dg w 21) = dg w 21 := by have := dg_lo w 21; exact wi64 (by omega) (by omega)
  have t4 : Int.tdiv (w / 268435456) 128 = w / 34359738368 := by rw [Int.tdiv_eq_ediv_of_nonneg (by omega)]; omega
  have m4 : Int.tmod (w / 268435456) 128 = dg w 28 := by rw [Int.tmod_eq_emod_of_nonneg (by omega)]; rfl
  have v4 : IntKind.u64.wrap (w / 34359738368) = w / 34359738368 := wu7 (by omega) (by omega)
  have d4 : IntKind.u64.wrap (dg w 28) = dg w 28 := by have := dg_lo w 28; exact wu7 (by omega) (by omega)
  have i4 : IntKind.i64.wrap (dg w 28) = dg w 28 := by have := dg_lo w 28; exact wi64 (by omega) (by omega)
  have t5 : Int.tdiv (w / 34359738368) 128 = w / 4398046511104 := by rw [Int.tdiv_eq_ediv_of_nonneg (by omega)]; omega
  have m5 : Int.tmod (w / 34359738368) 128 = dg w 35 := by rw [Int.tmod_eq_emod_of_nonneg (by omega)]; rfl
  have v5 : IntKind.u64.wrap (w / 4398046511104) = w / 4398046511104 := wu7 (by omega) (by omega)
  have d5 : IntKind.u64.wrap (dg w 35) = dg w 35 := by have := dg_lo w 35; exact wu7 (by omega) (by omega)
  have i5 : IntKind.i64.wrap (dg w 35) = dg w 35 := by have := dg_lo w 35; exact wi64 (by omega) (by omega)
  have t6 : Int.tdiv (w / 4398046511104) 128 = w / 562949953421312 := by rw [Int.tdiv_eq_ediv_of_nonneg (by omega)]; omega
  have m6 : Int.tmod (w / 4398046511104) 128 = dg w 42 := by rw [Int.tmod_eq_emod_of_nonneg (by omega)]; rfl
  have v6 : IntKind.u64.wrap (w / 562949953421312) = w / 562949953421312 := wu7 (by omega) (by omega)
  have d6 : IntKind.u64.wrap (dg w 42) = dg w 42 := by have := dg_lo w 42; exact wu7 (by omega) (by omega)
  have i6 : IntKind.i64.wrap (dg w 42) = dg w 42 := by have := dg_lo w 42; exact wi64 (by omega) (by omega)
  have t7 : Int.tdiv (w / 562949953421312) 128 = w / 72057594037927936 := by rw [Int.tdiv_eq_ediv_of_nonneg (by omega)]; omega
  have m7 : Int.tmod (w / 562949953421312) 128 = dg w 49 := by rw [Int.tmod_eq_emod_of_nonneg (by omega)]; rfl
  have v7 : IntKind.u64.wrap (w / 72057594037927936) = w / 72057594037927936 := wu7 (by omega) (by omega)
  have d7 : IntKind.u64.wrap (dg w 49) = dg w 49 := by have := dg_lo w 49; exact wu7 (by omega) (by omega)
  have i7 : IntKind.i64.wrap (dg w 49) = dg w 49 := by have := dg_lo w 49; exact wi64 (by omega) (by omega)
  have t8 : Int.tdiv (w / 72057594037927936) 128 = w / 9223372036854775808 := by rw [Int.tdiv_eq_ediv_of_nonneg (by omega)]; omega
  have m8 : Int.tmod (w / 72057594037927936) 128 = dg w 56 := by rw [Int.tmod_eq_emod_of_nonneg (by omega)]; rfl
  have v8 : IntKind.u64.wrap (w / 9223372036854775808) = w / 9223372036854775808 := wu7 (by omega) (by omega)
  have d8 : IntKind.u64.wrap (dg w 56) = dg w 56 := by have := dg_lo w 56; exact wu7 (by omega) (by omega)
  have i8 : IntKind.i64.wrap (dg w 56) = dg w 56 := by have := dg_lo w 56; exact wi64 (by omega) (by omega)
  refine gives_x hXV (fn := Tryd.f36) rfl rfl rfl rfl fun ρ w0 => ?_
  refine sxb hXV [.r 7] (List.replicate 10 .C) 4000 rfl (by simp [conjP, IntKind.wrap_i64, mulS_eq]) ?_
  refine ss_sub hXV (T' := runT w) (H' := runH w) [0, 18] rfl rfl rfl rfl ⟨⟨rfl, by simp only [t0, v0, t1, v1, t2, v2, t3, v3, t4, v4, t5, v5, t6, v6, t7, v7, t8, v8]⟩, by (repeat' (first | exact rfl | exact trivial | exact sim_refl _ | refine And.intro ?_ ?_)), by (repeat' (first | exact rfl | exact trivial | exact sim_refl _ | refine And.intro ?_ ?_)), by (repeat' (first | exact rfl | exact trivial | exact sim_refl _ | refine And.intro ?_ ?_)), trivial⟩ ⟨by (repeat' (first | exact rfl | exact trivial | exact sim_refl _ | refine And.intro ?_ ?_)), ⟨rfl, list9 (by simp only [m0, i0]) (by simp only [t0, v0, m1, i1]) (by simp only [t0, v0, t1, v1, m2, i2]) (by simp only [t0, v0, t1, v1, t2, v2, m3, i3]) (by simp only [t0, v0, t1, v1, t2, v2, t3, v3, m4, i4]) (by simp only [t0, v0, t1, v1, t2, v2, t3, v3, t4, v4, m5, i5]) (by simp only [t0, v0, t1, v1, t2, v2, t3, v3, t4, v4, t5, v5, m6, i6]) (by simp only [t0, v0, t1, v1, t2, v2, t3, v3, t4, v4, t5, v5, t6, v6, m7, i7]) (by simp only [t0, v0, t1, v1, t2, v2, t3, v3, t4, v4, t5, v5, t6, v6, t7, v7, m8, i8]), rfl, rfl⟩, trivial⟩ (by (repeat' (first | exact rfl | exact trivial | exact sim_refl _ | refine And.intro ?_ ?_))) (by (repeat' (first | exact rfl | exact trivial | exact sim_refl _ | refine And.intro ?_ ?_))) ?_
  rcases Bool.eq_false_or_eq_true (rightB (dg w 0) (dg w 7) (dg w 14) (dg w 21) (dg w 35) (dg w 42) (dg w 49) (dg w 56) (dg w 28)) with hr | hr
  · have hz : ¬ w / 9223372036854775808 = 0 := fun e => hu ⟨hr, by omega⟩
    refine sx hXV [] 4000 rfl (by (simp [-List.getD_eq_getElem?_getD, -List.length_eq_zero_iff, conjP, getH, HE.so, cellOff] <;> (first | omega | ((repeat' (refine And.intro ?_ ?_)) <;> (first | omega | exact decide_eq_false (by omega) | exact decide_eq_true (by omega)))))) ?_
    refine sx hXV [.F] 4000 rfl (by (simp [-List.getD_eq_getElem?_getD, -List.length_eq_zero_iff, conjP, addOP, hr, List.getD_cons_zero, List.getD_cons_succ, cellOff] <;> (first | omega | ((repeat' (refine And.intro ?_ ?_)) <;> (first | omega | exact decide_eq_false (by omega) | exact decide_eq_true (by omega)))))) ?_
    refine sx hXV [.T] 4000 rfl (by (simp [-List.getD_eq_getElem?_getD, -List.length_eq_zero_iff, conjP, addOP, hz] <;> (first | omega | ((repeat' (refine And.intro ?_ ?_)) <;> (first | omega | exact decide_eq_false (by omega) | exact decide_eq_true (by omega)))))) ?_
    (exact ss_end hXV [] rfl rfl trivial rfl rfl rfl rfl (by (repeat' (first | exact rfl | exact trivial | exact sim_refl _ | refine And.intro ?_ ?_))) trivial (by (repeat' (first | exact rfl | exact trivial | exact sim_refl _ | refine And.intro ?_ ?_))) trivial)
  · refine sx hXV [] 4000 rfl (by (simp [-List.getD_eq_getElem?_getD, -List.length_eq_zero_iff, conjP, getH, HE.so, cellOff] <;> (first | omega | ((repeat' (refine And.intro ?_ ?_)) <;> (first | omega | exact decide_eq_false (by omega) | exact decide_eq_true (by omega)))))) ?_
    refine sx hXV [.T] 4000 rfl (by (simp [-List.getD_eq_getElem?_getD, -List.length_eq_zero_iff, conjP, addOP, hr, List.getD_cons_zero, List.getD_cons_succ, cellOff] <;> (first | omega | ((repeat' (refine And.intro ?_ ?_)) <;> (first | omega | exact decide_eq_false (by omega) | exact decide_eq_true (by omega)))))) ?_
    (exact ss_end hXV [] rfl rfl trivial rfl rfl rfl rfl (by (repeat' (first | exact rfl | exact trivial | exact sim_refl _ | refine And.intro ?_ ?_))) trivial (by (repeat' (first | exact rfl | exact trivial | exact sim_refl _ | refine And.intro ?_ ?_))) trivial)
end Go.Proofs.YticejfomcekolaaDoor
