/- The document's Free. -/
import Derived.Test.YtfdkaakllceebaaDoorFreeLaw
namespace Go.Proofs.YtfdkaakllceebaaDoor
open Go Go.Hx
set_option maxRecDepth 8000
def rlS (r : HR) : Hx.Spec := fun args H => match args with
  | [.agg [.int .i64 a0, .int .i64 a1, .int .i64 a2, .int .i64 a3, .int .i64 a4, .int .i64 a5, .int .i64 a6, .int .i64 a7, .int .i64 a8], .slice h 0 n m, .int .i64 c] => match getH H h, nums[H.length]? with
    | some (.ints .u64 W 43), some k => some ([hsR a0 a1 a2 a3 a4 a5 a6 a7 a8 c n W = r, lsOb r n m W], rlP k r, H ++ rlN r)
    | _, _ => none
  | [.agg [.int .i64 a0, .int .i64 a1, .int .i64 a2, .int .i64 a3, .int .i64 a4, .int .i64 a5, .int .i64 a6, .int .i64 a7, .int .i64 a8], .sbuf h 1 0 n, .int .i64 c] => match getH H h, nums[H.length]? with
    | some (.buf .u64 W 1 43), some k => some ([hsR a0 a1 a2 a3 a4 a5 a6 a7 a8 c n W = r, isCode r = true], rlP k r, H ++ rlN r)
    | _, _ => none
  | _ => none
variable {a0 a1 a2 a3 a4 a5 a6 a7 a8 c : Int} {W : List Int}
theorem rl_arg_a {m k : Nat} (hn : ¬ (rightB a0 a1 a2 a3 a4 a5 a6 a7 a8 = true ∧ 0 ≤ c ∧ c ≤ 1)) : Gives Tryd.prog 43 [C9 a0 a1 a2 a3 a4 a5 a6 a7 a8, .slice 0 0 m k, .int .i64 c] [.obj (.ints .u64 W 43)] (Is (rlV (.code 1)) (rlL (.ints .u64 W 43) (.code 1))) := by
  refine gives_x hXRl (fn := Tryd.f43) rfl rfl rfl rfl fun ρ w => ?_
  by_cases hr : rightB a0 a1 a2 a3 a4 a5 a6 a7 a8 = true
  · have hk : c < 0 ∨ 1 < c := by
      rcases Int.lt_or_le c 0 with q | q
      · exact .inl q
      · exact .inr (Int.not_le.1 fun q2 => hn ⟨hr, q, q2⟩)
    rcases hk with hk | hk
    · refine sx hXRl [] 400 rfl (by (simp [-List.getD_eq_getElem?_getD, -List.length_eq_zero_iff, conjP] <;> (first | omega | ((repeat' (refine And.intro ?_ ?_)) <;> (first | omega | exact decide_eq_false (by omega) | exact decide_eq_true (by omega)))))) ?_
      refine sx hXRl [.F] 400 rfl (by (simp [-List.getD_eq_getElem?_getD, -List.length_eq_zero_iff, conjP, addOP, hr] <;> (first | omega | ((repeat' (refine And.intro ?_ ?_)) <;> (first | omega | exact decide_eq_false (by omega) | exact decide_eq_true (by omega)))))) ?_
      refine sx hXRl [.T] 400 rfl (by (simp [-List.getD_eq_getElem?_getD, -List.length_eq_zero_iff, conjP, addOP, hk] <;> (first | omega | ((repeat' (refine And.intro ?_ ?_)) <;> (first | omega | exact decide_eq_false (by omega) | exact decide_eq_true (by omega)))))) ?_
      (exact ss_end hXRl [0] rfl rfl trivial rfl rfl rfl rfl (by (repeat' (first | exact rfl | exact trivial | exact sim_refl _ | refine And.intro ?_ ?_))) (by (repeat' (first | exact rfl | exact trivial | exact sim_refl _ | refine And.intro ?_ ?_))) (by (repeat' (first | exact rfl | exact trivial | exact sim_refl _ | refine And.intro ?_ ?_))) (by (repeat' (first | exact rfl | exact trivial | exact sim_refl _ | refine And.intro ?_ ?_))))
    · have hk2 : ¬ c < 0 := by omega
      refine sx hXRl [] 400 rfl (by (simp [-List.getD_eq_getElem?_getD, -List.length_eq_zero_iff, conjP] <;> (first | omega | ((repeat' (refine And.intro ?_ ?_)) <;> (first | omega | exact decide_eq_false (by omega) | exact decide_eq_true (by omega)))))) ?_
      refine sx hXRl [.F] 400 rfl (by (simp [-List.getD_eq_getElem?_getD, -List.length_eq_zero_iff, conjP, addOP, hr] <;> (first | omega | ((repeat' (refine And.intro ?_ ?_)) <;> (first | omega | exact decide_eq_false (by omega) | exact decide_eq_true (by omega)))))) ?_
      refine sx hXRl [.F] 400 rfl (by (simp [-List.getD_eq_getElem?_getD, -List.length_eq_zero_iff, conjP, addOP, hk2] <;> (first | omega | ((repeat' (refine And.intro ?_ ?_)) <;> (first | omega | exact decide_eq_false (by omega) | exact decide_eq_true (by omega)))))) ?_
      refine sx hXRl [.T] 400 rfl (by (simp [-List.getD_eq_getElem?_getD, -List.length_eq_zero_iff, conjP, addOP, hk] <;> (first | omega | ((repeat' (refine And.intro ?_ ?_)) <;> (first | omega | exact decide_eq_false (by omega) | exact decide_eq_true (by omega)))))) ?_
      (exact ss_end hXRl [0] rfl rfl trivial rfl rfl rfl rfl (by (repeat' (first | exact rfl | exact trivial | exact sim_refl _ | refine And.intro ?_ ?_))) (by (repeat' (first | exact rfl | exact trivial | exact sim_refl _ | refine And.intro ?_ ?_))) (by (repeat' (first | exact rfl | exact trivial | exact sim_refl _ | refine And.intro ?_ ?_))) (by (repeat' (first | exact rfl | exact trivial | exact sim_refl _ | refine And.intro ?_ ?_))))
  · have hr' : rightB a0 a1 a2 a3 a4 a5 a6 a7 a8 = false := by simpa using hr
    refine sx hXRl [] 400 rfl (by (simp [-List.getD_eq_getElem?_getD, -List.length_eq_zero_iff, conjP] <;> (first | omega | ((repeat' (refine And.intro ?_ ?_)) <;> (first | omega | exact decide_eq_false (by omega) | exact decide_eq_true (by omega)))))) ?_
    refine sx hXRl [.T] 400 rfl (by (simp [-List.getD_eq_getElem?_getD, -List.length_eq_zero_iff, conjP, addOP, hr'] <;> (first | omega | ((repeat' (refine And.intro ?_ ?_)) <;> (first | omega | exact decide_eq_false (by omega) | exact decide_eq_true (by omega)))))) ?_
    (exact ss_end hXRl [0] rfl rfl trivial rfl rfl rfl rfl (by (repeat' (first | exact rfl | exact trivial | exact sim_refl _ | refine And.intro ?_ ?_))) (by (repeat' (first | exact rfl | exact trivial | exact sim_refl _ | refine And.intro ?_ ?_))) (by (repeat' (first | exact rfl | exact trivial | exact sim_refl _ | refine And.intro ?_ ?_))) (by (repeat' (first | exact rfl | exact trivial | exact sim_refl _ | refine And.intro ?_ ?_))))
theorem rl_range_a {m k : Nat} (hr : rightB a0 a1 a2 a3 a4 a5 a6 a7 a8 = true) (hc0 : 0 ≤ c) (hc1 : c ≤ 1) (hl : ¬ (m : Int) = sizeV a0 a1 a2 a4 a5 a6 a7) : Gives Tryd.prog 43 [C9 a0 a1 a2 a3 a4 a5 a6 a7 a8, .slice 0 0 m k, .int .i64 c] [.obj (.ints .u64 W 43)] (Is (rlV (.code 23)) (rlL (.ints .u64 W 43) (.code 23))) := by
  refine gives_x hXRl (fn := Tryd.f43) rfl rfl rfl rfl fun ρ w => ?_
  have hk1 : ¬ c < 0 := by omega
  have hk2 : ¬ 1 < c := by omega
  refine sx hXRl [] 400 rfl (by (simp [-List.getD_eq_getElem?_getD, -List.length_eq_zero_iff, conjP] <;> (first | omega | ((repeat' (refine And.intro ?_ ?_)) <;> (first | omega | exact decide_eq_false (by omega) | exact decide_eq_true (by omega)))))) ?_
  refine sx hXRl [.F] 400 rfl (by (simp [-List.getD_eq_getElem?_getD, -List.length_eq_zero_iff, conjP, addOP, hr] <;> (first | omega | ((repeat' (refine And.intro ?_ ?_)) <;> (first | omega | exact decide_eq_false (by omega) | exact decide_eq_true (by omega)))))) ?_
  refine sx hXRl [.F] 400 rfl (by (simp [-List.getD_eq_getElem?_getD, -List.length_eq_zero_iff, conjP, addOP, hk1] <;> (first | omega | ((repeat' (refine And.intro ?_ ?_)) <;> (first | omega | exact decide_eq_false (by omega) | exact decide_eq_true (by omega)))))) ?_
  refine sx hXRl [.F] 400 rfl (by (simp [-List.getD_eq_getElem?_getD, -List.length_eq_zero_iff, conjP, hr, hk2] <;> (first | omega | ((repeat' (refine And.intro ?_ ?_)) <;> (first | omega | exact decide_eq_false (by omega) | exact decide_eq_true (by omega)))))) ?_
  refine sx hXRl [.T] 400 rfl (by (simp [-List.getD_eq_getElem?_getD, -List.length_eq_zero_iff, conjP, addOP, hl] <;> (first | omega | ((repeat' (refine And.intro ?_ ?_)) <;> (first | omega | exact decide_eq_false (by omega) | exact decide_eq_true (by omega)))))) ?_
  (exact ss_end hXRl [0] rfl rfl trivial rfl rfl rfl rfl (by (repeat' (first | exact rfl | exact trivial | exact sim_refl _ | refine And.intro ?_ ?_))) (by (repeat' (first | exact rfl | exact trivial | exact sim_refl _ | refine And.intro ?_ ?_))) (by (repeat' (first | exact rfl | exact trivial | exact sim_refl _ | refine And.intro ?_ ?_))) (by (repeat' (first | exact rfl | exact trivial | exact sim_refl _ | refine And.intro ?_ ?_))))
theorem rl_arg_b {m : Nat} (hn : ¬ (rightB a0 a1 a2 a3 a4 a5 a6 a7 a8 = true ∧ 0 ≤ c ∧ c ≤ 1)) : Gives Tryd.prog 43 [C9 a0 a1 a2 a3 a4 a5 a6 a7 a8, .sbuf 0 1 0 m, .int .i64 c] [.obj (.buf .u64 W 1 43)] (Is (rlV (.code 1)) (rlL (.buf .u64 W 1 43) (.code 1))) := by
  refine gives_x hXRl (fn := Tryd.f43) rfl rfl rfl rfl fun ρ w => ?_
  by_cases hr : rightB a0 a1 a2 a3 a4 a5 a6 a7 a8 = true
  · have hk : c < 0 ∨ 1 < c := by
      rcases Int.lt_or_le c 0 with q | q
      · exact .inl q
      · exact .inr (Int.not_le.1 fun q2 => hn ⟨hr, q, q2⟩)
    rcases hk with hk | hk
    · refine sx hXRl [] 400 rfl (by (simp [-List.getD_eq_getElem?_getD, -List.length_eq_zero_iff, conjP] <;> (first | omega | ((repeat' (refine And.intro ?_ ?_)) <;> (first | omega | exact decide_eq_false (by omega) | exact decide_eq_true (by omega)))))) ?_
      refine sx hXRl [.F] 400 rfl (by (simp [-List.getD_eq_getElem?_getD, -List.length_eq_zero_iff, conjP, addOP, hr] <;> (first | omega | ((repeat' (refine And.intro ?_ ?_)) <;> (first | omega | exact decide_eq_false (by omega) | exact decide_eq_true (by omega)))))) ?_
      refine sx hXRl [.T] 400 rfl (by (simp [-List.getD_eq_getElem?_getD, -List.length_eq_zero_iff, conjP, addOP, hk] <;> (first | omega | ((repeat' (refine And.intro ?_ ?_)) <;> (first | omega | exact decide_eq_false (by omega) | exact decide_eq_true (by omega)))))) ?_
      (exact ss_end hXRl [0] rfl rfl trivial rfl rfl rfl rfl (by (repeat' (first | exact rfl | exact trivial | exact sim_refl _ | refine And.intro ?_ ?_))) (by (repeat' (first | exact rfl | exact trivial | exact sim_refl _ | refine And.intro ?_ ?_))) (by (repeat' (first | exact rfl | exact trivial | exact sim_refl _ | refine And.intro ?_ ?_))) (by (repeat' (first | exact rfl | exact trivial | exact sim_refl _ | refine And.intro ?_ ?_))))
    · have hk2 : ¬ c < 0 := by omega
      refine sx hXRl [] 400 rfl (by (simp [-List.getD_eq_getElem?_getD, -List.length_eq_zero_iff, conjP] <;> (first | omega | ((repeat' (refine And.intro ?_ ?_)) <;> (first | omega | exact decide_eq_false (by omega) | exact decide_eq_true (by omega)))))) ?_
      refine sx hXRl [.F] 400 rfl (by (simp [-List.getD_eq_getElem?_getD, -List.length_eq_zero_iff, conjP, addOP, hr] <;> (first | omega | ((repeat' (refine And.intro ?_ ?_)) <;> (first | omega | exact decide_eq_false (by omega) | exact decide_eq_true (by omega)))))) ?_
      refine sx hXRl [.F] 400 rfl (by (simp [-List.getD_eq_getElem?_getD, -List.length_eq_zero_iff, conjP, addOP, hk2] <;> (first | omega | ((repeat' (refine And.intro ?_ ?_)) <;> (first | omega | exact decide_eq_false (by omega) | exact decide_eq_true (by omega)))))) ?_
      refine sx hXRl [.T] 400 rfl (by (simp [-List.getD_eq_getElem?_getD, -List.length_eq_zero_iff, conjP, addOP, hk] <;> (first | omega | ((repeat' (refine And.intro ?_ ?_)) <;> (first | omega | exact decide_eq_false (by omega) | exact decide_eq_true (by omega)))))) ?_
      (exact ss_end hXRl [0] rfl rfl trivial rfl rfl rfl rfl (by (repeat' (first | exact rfl | exact trivial | exact sim_refl _ | refine And.intro ?_ ?_))) (by (repeat' (first | exact rfl | exact trivial | exact sim_refl _ | refine And.intro ?_ ?_))) (by (repeat' (first | exact rfl | exact trivial | exact sim_refl _ | refine And.intro ?_ ?_))) (by (repeat' (first | exact rfl | exact trivial | exact sim_refl _ | refine And.intro ?_ ?_))))
  · have hr' : rightB a0 a1 a2 a3 a4 a5 a6 a7 a8 = false := by simpa using hr
    refine sx hXRl [] 400 rfl (by (simp [-List.getD_eq_getElem?_getD, -List.length_eq_zero_iff, conjP] <;> (first | omega | ((repeat' (refine And.intro ?_ ?_)) <;> (first | omega | exact decide_eq_false (by omega) | exact decide_eq_true (by omega)))))) ?_
    refine sx hXRl [.T] 400 rfl (by (simp [-List.getD_eq_getElem?_getD, -List.length_eq_zero_iff, conjP, addOP, hr'] <;> (first | omega | ((repeat' (refine And.intro ?_ ?_)) <;> (first | omega | exact decide_eq_false (by omega) | exact decide_eq_true (by omega)))))) ?_
    (exact ss_end hXRl [0] rfl rfl trivial rfl rfl rfl rfl (by (repeat' (first | exact rfl | exact trivial | exact sim_refl _ | refine And.intro ?_ ?_))) (by (repeat' (first | exact rfl | exact trivial | exact sim_refl _ | refine And.intro ?_ ?_))) (by (repeat' (first | exact rfl | exact trivial | exact sim_refl _ | refine And.intro ?_ ?_))) (by (repeat' (first | exact rfl | exact trivial | exact sim_refl _ | refine And.intro ?_ ?_))))
theorem rl_range_b {m : Nat} (hr : rightB a0 a1 a2 a3 a4 a5 a6 a7 a8 = true) (hc0 : 0 ≤ c) (hc1 : c ≤ 1) (hl : ¬ (m : Int) = sizeV a0 a1 a2 a4 a5 a6 a7) : Gives Tryd.prog 43 [C9 a0 a1 a2 a3 a4 a5 a6 a7 a8, .sbuf 0 1 0 m, .int .i64 c] [.obj (.buf .u64 W 1 43)] (Is (rlV (.code 23)) (rlL (.buf .u64 W 1 43) (.code 23))) := by
  refine gives_x hXRl (fn := Tryd.f43) rfl rfl rfl rfl fun ρ w => ?_
  have hk1 : ¬ c < 0 := by omega
  have hk2 : ¬ 1 < c := by omega
  refine sx hXRl [] 400 rfl (by (simp [-List.getD_eq_getElem?_getD, -List.length_eq_zero_iff, conjP] <;> (first | omega | ((repeat' (refine And.intro ?_ ?_)) <;> (first | omega | exact decide_eq_false (by omega) | exact decide_eq_true (by omega)))))) ?_
  refine sx hXRl [.F] 400 rfl (by (simp [-List.getD_eq_getElem?_getD, -List.length_eq_zero_iff, conjP, addOP, hr] <;> (first | omega | ((repeat' (refine And.intro ?_ ?_)) <;> (first | omega | exact decide_eq_false (by omega) | exact decide_eq_true (by omega)))))) ?_
  refine sx hXRl [.F] 400 rfl (by (simp [-List.getD_eq_getElem?_getD, -List.length_eq_zero_iff, conjP, addOP, hk1] <;> (first | omega | ((repeat' (refine And.intro ?_ ?_)) <;> (first | omega | exact decide_eq_false (by omega) | exact decide_eq_true (by omega)))))) ?_
  refine sx hXRl [.F] 400 rfl (by (simp [-List.getD_eq_getElem?_getD, -List.length_eq_zero_iff, conjP, hr, hk2] <;> (first | omega | ((repeat' (refine And.intro ?_ ?_)) <;> (first | omega | exact decide_eq_false (by omega) | exact decide_eq_true (by omega)))))) ?_
  refine sx hXRl [.T] 400 rfl (by (simp [-List.getD_eq_getElem?_getD, -List.length_eq_zero_iff, conjP, addOP, hl] <;> (first | omega | ((repeat' (refine And.intro ?_ ?_)) <;> (first | omega | exact decide_eq_false (by omega) | exact decide_eq_true (by omega)))))) ?_
  (exact ss_end hXRl [0] rfl rfl trivial rfl rfl rfl rfl (by (repeat' (first | exact rfl | exact trivial | exact sim_refl _ | refine And.intro ?_ ?_))) (by (repeat' (first | exact rfl | exact trivial | exact sim_refl _ | refine And.intro ?_ ?_))) (by (repeat' (first | exact rfl | exact trivial | exact sim_refl _ | refine And.intro ?_ ?_))) (by (repeat' (first | exact rfl | exact trivial | exact sim_refl _ | refine And.intro ?_ ?_))))
theorem rlS_ok {r : HR} {args : List SV} {H : List HE} {ob : List Prop} {V : SV} {L : List HE} (hs : rlS r args H = some (ob, V, L)) (ho : AllP ob) : Gives Tryd.prog 43 args H (Is V L) := by
  unfold rlS at hs
  split at hs
  · rename_i _ a0 a1 a2 a3 a4 a5 a6 a7 a8 h n m c
    split at hs
    case h_2 => simp at hs
    rename_i _ _ W k hg hk
    have hk' := nums_get _ _ hk
    subst hk'
    simp only [Option.some.injEq, Prod.mk.injEq] at hs
    obtain ⟨rfl, rfl, rfl⟩ := hs
    have o1 := ho _ (List.mem_cons_self ..)
    have o2 := ho _ (List.mem_cons_of_mem _ (List.mem_cons_self ..))
    rcases hs_split o1 with ⟨q, rfl⟩ | ⟨q1, q2, q3, q4, rfl⟩ | ⟨q1, q2, q3, q4, q5⟩
    · exact rl_frame (x := .slice 0 0 n m) (rl_arg_a q) rfl rfl rfl hg rfl
    · exact rl_frame (x := .slice 0 0 n m) (rl_range_a q1 q2 q3 q4) rfl rfl rfl hg rfl
    · rcases o2 with ⟨rfl, rfl, o4⟩ | o2
      · subst q4
        rcases q2 with rfl | rfl
        · exact rl_frame (x := .slice 0 0 W.length W.length) (rl_fn0 q1 q3 o4) rfl rfl rfl hg rfl
        · exact rl_frame (x := .slice 0 0 W.length W.length) (rl_fn1 q1 q3 o4) rfl rfl rfl hg rfl
      · rw [q5] at o2; simp at o2
  · rename_i _ a0 a1 a2 a3 a4 a5 a6 a7 a8 h n c
    split at hs
    case h_2 => simp at hs
    rename_i _ _ W k hg hk
    have hk' := nums_get _ _ hk
    subst hk'
    simp only [Option.some.injEq, Prod.mk.injEq] at hs
    obtain ⟨rfl, rfl, rfl⟩ := hs
    have o1 := ho _ (List.mem_cons_self ..)
    have o2 := ho _ (List.mem_cons_of_mem _ (List.mem_cons_self ..))
    rcases hs_split o1 with ⟨q, rfl⟩ | ⟨q1, q2, q3, q4, rfl⟩ | ⟨q1, q2, q3, q4, q5⟩
    · exact rl_frame (x := .sbuf 0 1 0 n) (rl_arg_b q) rfl rfl rfl hg rfl
    · exact rl_frame (x := .sbuf 0 1 0 n) (rl_range_b q1 q2 q3 q4) rfl rfl rfl hg rfl
    · rw [q5] at o2; simp at o2
  · simp at hs
def rlS2 (r0 r1 : HR) : Hx.Spec := fun args H => match args with
  | [x, y, .int .i64 c] => rlS (selR r0 r1 c) [x, y, .int .i64 c] H
  | _ => none
theorem rlS2_ok {r0 r1 : HR} {args : List SV} {H : List HE} {ob : List Prop} {V : SV} {L : List HE} (hs : rlS2 r0 r1 args H = some (ob, V, L)) (ho : AllP ob) : Gives Tryd.prog 43 args H (Is V L) := by
  unfold rlS2 at hs
  split at hs
  · exact rlS_ok hs ho
  · simp at hs
theorem hasS_ok {args : List SV} {H : List HE} {ob : List Prop} {V : SV} {L : List HE} (hs : hasS args H = some (ob, V, L)) (ho : AllP ob) : Gives Tryd.prog 14 args H (Is V L) := by
  unfold hasS at hs
  split at hs
  · simp only [Option.some.injEq, Prod.mk.injEq] at hs
    obtain ⟨rfl, rfl, rfl⟩ := hs
    exact gives_pure ⟨_, hTE⟩ (has_nil _) rfl rfl _
  · rename_i _ h l n
    split at hs
    · rename_i _ X hg
      simp only [Option.some.injEq, Prod.mk.injEq] at hs
      obtain ⟨rfl, rfl, rfl⟩ := hs
      have o1 := ho _ (List.mem_cons_self ..)
      have o2 := ho _ (List.mem_cons_of_mem _ (List.mem_cons_self ..))
      subst o1
      have := frame1 (N := []) (H := H) (h0 := h) ⟨_, hTE⟩ (has_fn X n o2) rfl rfl rfl hg rfl
      simp only [List.map_nil, List.append_nil] at this
      have e : SO.ren (nm [h] H) (SO.buf .i64 X 1 3) = SO.buf .i64 X 1 3 := rfl
      rw [e, set_self hg] at this
      exact this
    · simp at hs
  · simp at hs
def ctRf (r0 r1 : HR) : Nat → Option Hx.Spec
  | 43 => some (rlS2 r0 r1)
  | 14 => some (hasS)
  | _ => none
theorem ctRf_ok (r0 r1 : HR) : ∀ f s args H ob V L, ctRf r0 r1 f = some s → s args H = some (ob, V, L) → AllP ob → Gives Tryd.prog f args H (Is V L) := by
  intro f s args H ob V L h hs ho
  unfold ctRf at h
  split at h
  · simp at h; subst h; exact rlS2_ok hs ho
  · simp at h; subst h; exact hasS_ok hs ho
  · simp at h
noncomputable def XRf (r0 r1 : HR) : Tabs := tabs tr ft xt (fun _ => none) (ctRf r0 r1) 0
theorem hXRf (r0 r1 : HR) : TOk Tryd.prog (XRf r0 r1) := ⟨hTE, hFT, (ctRf_ok r0 r1), hXT, fun t ks h => by simp [XRf, tabs] at h, mixed⟩
theorem hasL_nil (x : Int) : hasL [] x = false := rfl
theorem rfO_le (l m : List Int) : ∀ n, (lst (rfO l m n)).length ≤ n
  | 0 => by simp [rfO, lst]
  | n + 1 => by
    rw [rfO]
    have := rfO_le l m n
    split
    · simp [lst] at this ⊢; omega
    · omega

def rfTnn (acc : Option (List Int)) (j : Nat) : List (Nat × SV) := [(2, .ptr 1 0), (4, .ptr 2 0), (5, .ptr 3 0), (6, .ptr 4 0), (7, slV acc 5), (8, .int .i64 ((j + 1 : Nat) : Int))]
def rfHnn (a0 a1 a2 a3 a4 a5 a6 a7 a8 : Int) (W : List Int) (acc : Option (List Int)) : List HE := [.obj (.ints .u64 W 43), c9O a0 a1 a2 a3 a4 a5 a6 a7 a8, .obj (.cells [.nilslice, .int .i64 0, .int .i64 0, .ff] 83), .obj (.cells [.nilslice, .int .i64 0, .int .i64 0, .ff] 83), .obj (.cells [.nilslice, .int .i64 0, .int .i64 0, .ff] 83), slE acc .i64 3]
set_option maxHeartbeats 8000000 in
theorem rf_nn (hr : rightB a0 a1 a2 a3 a4 a5 a6 a7 a8 = true) (hU : InU W) (e0 : hsR a0 a1 a2 a3 a4 a5 a6 a7 a8 0 W.length W = .ok none) (e1 : hsR a0 a1 a2 a3 a4 a5 a6 a7 a8 1 W.length W = .ok none) : Gives Tryd.prog 42 [C9 a0 a1 a2 a3 a4 a5 a6 a7 a8, .slice 0 0 W.length W.length] [.obj (.ints .u64 W 43)] (Is (rlV (.ok (rfO ([] : List Int) ([] : List Int) (a5 + a7).toNat))) (rlL (.ints .u64 W 43) (.ok (rfO ([] : List Int) ([] : List Int) (a5 + a7).toNat)))) := by
  have hrA := right_iff.1 hr
  have o0 : lsOb (.ok none) W.length W.length W := .inl ⟨rfl, rfl, hU⟩
  have o1 : lsOb (.ok none) W.length W.length W := .inl ⟨rfl, rfl, hU⟩
  have hAB : IntKind.i64.wrap (a5 + a7) = a5 + a7 := wi64 (by omega) (by omega)
  have hX := hXRf (.ok none) (.ok none)
  refine gives_x hX (fn := Tryd.f42) rfl rfl rfl rfl fun ρ w => ?_
  refine sxb hX [.l] [.F, .F] 4000 rfl (by simp [conjP, sel0, sel1, e0, e1, o0]) ?_
  refine ss_sub hX (T' := rfTnn none 0) (H' := rfHnn a0 a1 a2 a3 a4 a5 a6 a7 a8 W none) [0, 1, 2, 3, 4, 99] rfl rfl rfl rfl (by (repeat' (first | exact rfl | exact trivial | exact sim_refl _ | refine And.intro ?_ ?_))) (by (repeat' (first | exact rfl | exact trivial | exact sim_refl _ | refine And.intro ?_ ?_))) (by (repeat' (first | exact rfl | exact trivial | exact sim_refl _ | refine And.intro ?_ ?_))) (by (repeat' (first | exact rfl | exact trivial | exact sim_refl _ | refine And.intro ?_ ?_))) ?_
  refine ss_loop hX (fun x : Nat × Option (List Int) => rfTnn x.2 x.1) (fun x => rfHnn a0 a1 a2 a3 a4 a5 a6 a7 a8 W x.2) (fun x => x.2 = rfO ([] : List Int) ([] : List Int) x.1 ∧ x.1 ≤ (a5 + a7).toNat) (fun x => (a5 + a7).toNat - x.1) (0, none) ⟨rfl, Nat.zero_le _⟩ ?_
  rintro ⟨j, acc⟩ ⟨hacc, hj⟩ I back
  dsimp only at hacc hj
  dsimp only
  have hlen := rfO_le ([] : List Int) ([] : List Int) j
  rw [← hacc] at hlen
  have ewj : IntKind.i64.wrap (((j + 1 : Nat) : Int) + 1) = ((j + 1 + 1 : Nat) : Int) := by rw [wi64 (by omega) (by omega)]; omega
  by_cases hjn : j < (a5 + a7).toNat
  · have hle : ((j + 1 : Nat) : Int) ≤ a5 + a7 := by omega
    cases acc with
    | none =>
      dsimp only [rfTnn, rfHnn, slV, slE]
      by_cases hh : hasL ([] : List Int) ((j + 1 : Nat) : Int) = true ∨ hasL ([] : List Int) ((j + 1 : Nat) : Int) = true
      · have hs : rfO ([] : List Int) ([] : List Int) (j + 1) = some (lst (none : Option (List Int)) ++ [((j + 1 : Nat) : Int)]) := by rw [rfO, if_pos hh, ← hacc]
        rcases hB0 : hasL ([] : List Int) ((j + 1 : Nat) : Int) with _ | _
        · have hB1 : hasL ([] : List Int) ((j + 1 : Nat) : Int) = true := by rcases hh with q | q; (rw [hB0] at q; simp at q); exact q
          have hC0 : hasL ([] : List Int) ((j : Int) + 1) = false := hB0
          have hC1 : hasL ([] : List Int) ((j : Int) + 1) = true := hB1
          simp [hasL_nil] at hB1
        · simp [hasL_nil] at hB0
      · have hs : rfO ([] : List Int) ([] : List Int) (j + 1) = (none : Option (List Int)) := by rw [rfO, if_neg hh, ← hacc]
        have hB0 : hasL ([] : List Int) ((j + 1 : Nat) : Int) = false := by simpa using fun q => hh (.inl q)
        have hB1 : hasL ([] : List Int) ((j + 1 : Nat) : Int) = false := by simpa using fun q => hh (.inr q)
        have hC0 : hasL ([] : List Int) ((j : Int) + 1) = false := hB0
        have hC1 : hasL ([] : List Int) ((j : Int) + 1) = false := hB1
        refine sx hX [] 4000 rfl (by (simp [-List.getD_eq_getElem?_getD, -List.length_eq_zero_iff, conjP] <;> (first | omega | ((repeat' (refine And.intro ?_ ?_)) <;> (first | omega | exact decide_eq_false (by omega) | exact decide_eq_true (by omega)))))) ?_
        refine sx hX [.T] 4000 rfl (by (simp [-List.getD_eq_getElem?_getD, -List.length_eq_zero_iff, conjP, addOP, hAB] <;> (first | omega | ((repeat' (refine And.intro ?_ ?_)) <;> (first | omega | exact decide_eq_false (by omega) | exact decide_eq_true (by omega)))))) ?_
        refine sx hX [.F] 4000 rfl (by (simp [-List.getD_eq_getElem?_getD, -List.length_eq_zero_iff, conjP, addOP] <;> (first | omega | ((repeat' (refine And.intro ?_ ?_)) <;> (first | omega | exact decide_eq_false (by omega) | exact decide_eq_true (by omega)))))) ?_
        refine sx hX [.F] 4000 rfl (by (simp [-List.getD_eq_getElem?_getD, -List.length_eq_zero_iff, conjP, addOP] <;> (first | omega | ((repeat' (refine And.intro ?_ ?_)) <;> (first | omega | exact decide_eq_false (by omega) | exact decide_eq_true (by omega)))))) ?_
        (refine back (j + 1, (none : Option (List Int))) ⟨?q, ?b⟩ ?c _ _ _ (sub_of [0, 1, 2, 3, 4, 5] rfl rfl rfl rfl ?tt ?hh (by (repeat' (first | exact rfl | exact trivial | exact sim_refl _ | refine And.intro ?_ ?_))) (by (repeat' (first | exact rfl | exact trivial | exact sim_refl _ | refine And.intro ?_ ?_)))); (case tt => exact ⟨by (repeat' (first | exact rfl | exact trivial | exact sim_refl _ | refine And.intro ?_ ?_)), by (repeat' (first | exact rfl | exact trivial | exact sim_refl _ | refine And.intro ?_ ?_)), by (repeat' (first | exact rfl | exact trivial | exact sim_refl _ | refine And.intro ?_ ?_)), by (repeat' (first | exact rfl | exact trivial | exact sim_refl _ | refine And.intro ?_ ?_)), by (repeat' (first | exact rfl | exact trivial | exact sim_refl _ | refine And.intro ?_ ?_)), ⟨rfl, ewj⟩, trivial⟩); (case hh => (repeat' (first | exact rfl | exact trivial | exact sim_refl _ | refine And.intro ?_ ?_)); done); (case q => exact hs.symm); (case b => (dsimp only; omega)); (case c => (dsimp only; omega)))
    | some g =>
      have hg : g.length ≤ 30 := by have : (lst (some g)).length = g.length := rfl; omega
      dsimp only [rfTnn, rfHnn, slV, slE]
      by_cases hh : hasL ([] : List Int) ((j + 1 : Nat) : Int) = true ∨ hasL ([] : List Int) ((j + 1 : Nat) : Int) = true
      · have hs : rfO ([] : List Int) ([] : List Int) (j + 1) = some (lst (some g : Option (List Int)) ++ [((j + 1 : Nat) : Int)]) := by rw [rfO, if_pos hh, ← hacc]
        rcases hB0 : hasL ([] : List Int) ((j + 1 : Nat) : Int) with _ | _
        · have hB1 : hasL ([] : List Int) ((j + 1 : Nat) : Int) = true := by rcases hh with q | q; (rw [hB0] at q; simp at q); exact q
          have hC0 : hasL ([] : List Int) ((j : Int) + 1) = false := hB0
          have hC1 : hasL ([] : List Int) ((j : Int) + 1) = true := hB1
          simp [hasL_nil] at hB1
        · simp [hasL_nil] at hB0
      · have hs : rfO ([] : List Int) ([] : List Int) (j + 1) = (some g : Option (List Int)) := by rw [rfO, if_neg hh, ← hacc]
        have hB0 : hasL ([] : List Int) ((j + 1 : Nat) : Int) = false := by simpa using fun q => hh (.inl q)
        have hB1 : hasL ([] : List Int) ((j + 1 : Nat) : Int) = false := by simpa using fun q => hh (.inr q)
        have hC0 : hasL ([] : List Int) ((j : Int) + 1) = false := hB0
        have hC1 : hasL ([] : List Int) ((j : Int) + 1) = false := hB1
        refine sx hX [] 4000 rfl (by (simp [-List.getD_eq_getElem?_getD, -List.length_eq_zero_iff, conjP] <;> (first | omega | ((repeat' (refine And.intro ?_ ?_)) <;> (first | omega | exact decide_eq_false (by omega) | exact decide_eq_true (by omega)))))) ?_
        refine sx hX [.T] 4000 rfl (by (simp [-List.getD_eq_getElem?_getD, -List.length_eq_zero_iff, conjP, addOP, hAB] <;> (first | omega | ((repeat' (refine And.intro ?_ ?_)) <;> (first | omega | exact decide_eq_false (by omega) | exact decide_eq_true (by omega)))))) ?_
        refine sx hX [.F] 4000 rfl (by (simp [-List.getD_eq_getElem?_getD, -List.length_eq_zero_iff, conjP, addOP] <;> (first | omega | ((repeat' (refine And.intro ?_ ?_)) <;> (first | omega | exact decide_eq_false (by omega) | exact decide_eq_true (by omega)))))) ?_
        refine sx hX [.F] 4000 rfl (by (simp [-List.getD_eq_getElem?_getD, -List.length_eq_zero_iff, conjP, addOP] <;> (first | omega | ((repeat' (refine And.intro ?_ ?_)) <;> (first | omega | exact decide_eq_false (by omega) | exact decide_eq_true (by omega)))))) ?_
        (refine back (j + 1, (some g : Option (List Int))) ⟨?q, ?b⟩ ?c _ _ _ (sub_of [0, 1, 2, 3, 4, 5] rfl rfl rfl rfl ?tt ?hh (by (repeat' (first | exact rfl | exact trivial | exact sim_refl _ | refine And.intro ?_ ?_))) (by (repeat' (first | exact rfl | exact trivial | exact sim_refl _ | refine And.intro ?_ ?_)))); (case tt => exact ⟨by (repeat' (first | exact rfl | exact trivial | exact sim_refl _ | refine And.intro ?_ ?_)), by (repeat' (first | exact rfl | exact trivial | exact sim_refl _ | refine And.intro ?_ ?_)), by (repeat' (first | exact rfl | exact trivial | exact sim_refl _ | refine And.intro ?_ ?_)), by (repeat' (first | exact rfl | exact trivial | exact sim_refl _ | refine And.intro ?_ ?_)), by (repeat' (first | exact rfl | exact trivial | exact sim_refl _ | refine And.intro ?_ ?_)), ⟨rfl, ewj⟩, trivial⟩); (case hh => (repeat' (first | exact rfl | exact trivial | exact sim_refl _ | refine And.intro ?_ ?_)); done); (case q => exact hs.symm); (case b => (dsimp only; omega)); (case c => (dsimp only; omega)))
  · have hle : ¬ ((j + 1 : Nat) : Int) ≤ a5 + a7 := by omega
    have hje : j = (a5 + a7).toNat := by omega
    rw [← hje, ← hacc]
    cases acc with
    | none =>
      dsimp only [rfTnn, rfHnn, slV, slE]
      refine sx hX [] 4000 rfl (by (simp [-List.getD_eq_getElem?_getD, -List.length_eq_zero_iff, conjP] <;> (first | omega | ((repeat' (refine And.intro ?_ ?_)) <;> (first | omega | exact decide_eq_false (by omega) | exact decide_eq_true (by omega)))))) ?_
      refine sx hX [.F] 4000 rfl (by (simp [-List.getD_eq_getElem?_getD, -List.length_eq_zero_iff, conjP, addOP, hAB] <;> (first | omega | ((repeat' (refine And.intro ?_ ?_)) <;> (first | omega | exact decide_eq_false (by omega) | exact decide_eq_true (by omega)))))) ?_
      (exact ss_end hX [0] rfl rfl trivial rfl rfl rfl rfl (by (repeat' (first | exact rfl | exact trivial | exact sim_refl _ | refine And.intro ?_ ?_))) (by (repeat' (first | exact rfl | exact trivial | exact sim_refl _ | refine And.intro ?_ ?_))) (by (repeat' (first | exact rfl | exact trivial | exact sim_refl _ | refine And.intro ?_ ?_))) (by (repeat' (first | exact rfl | exact trivial | exact sim_refl _ | refine And.intro ?_ ?_))))
    | some g =>
      dsimp only [rfTnn, rfHnn, slV, slE]
      refine sx hX [] 4000 rfl (by (simp [-List.getD_eq_getElem?_getD, -List.length_eq_zero_iff, conjP] <;> (first | omega | ((repeat' (refine And.intro ?_ ?_)) <;> (first | omega | exact decide_eq_false (by omega) | exact decide_eq_true (by omega)))))) ?_
      refine sx hX [.F] 4000 rfl (by (simp [-List.getD_eq_getElem?_getD, -List.length_eq_zero_iff, conjP, addOP, hAB] <;> (first | omega | ((repeat' (refine And.intro ?_ ?_)) <;> (first | omega | exact decide_eq_false (by omega) | exact decide_eq_true (by omega)))))) ?_
      (exact ss_end hX [0, 5] rfl rfl trivial rfl rfl rfl rfl (by (repeat' (first | exact rfl | exact trivial | exact sim_refl _ | refine And.intro ?_ ?_))) (by (repeat' (first | exact rfl | exact trivial | exact sim_refl _ | refine And.intro ?_ ?_))) (by (repeat' (first | exact rfl | exact trivial | exact sim_refl _ | refine And.intro ?_ ?_))) (by (repeat' (first | exact rfl | exact trivial | exact sim_refl _ | refine And.intro ?_ ?_))))

def rfTns (acc : Option (List Int)) (j : Nat) : List (Nat × SV) := [(2, .ptr 1 0), (4, .ptr 2 0), (5, .ptr 3 0), (6, .ptr 5 0), (7, slV acc 6), (8, .int .i64 ((j + 1 : Nat) : Int))]
def rfHns (a0 a1 a2 a3 a4 a5 a6 a7 a8 : Int) (W : List Int) (m : List Int) (acc : Option (List Int)) : List HE := [.obj (.ints .u64 W 43), c9O a0 a1 a2 a3 a4 a5 a6 a7 a8, .obj (.cells [.nilslice, .int .i64 0, .int .i64 0, .ff] 83), .obj (.cells [.nilslice, .int .i64 0, .int .i64 0, .ff] 83), IB m, .obj (.cells [.sbuf 4 1 0 m.length, .int .i64 0, .int .i64 0, .ff] 83), slE acc .i64 3]
set_option maxHeartbeats 8000000 in
theorem rf_ns {m : List Int} (hm : m.length < 1000000) (hr : rightB a0 a1 a2 a3 a4 a5 a6 a7 a8 = true) (hU : InU W) (e0 : hsR a0 a1 a2 a3 a4 a5 a6 a7 a8 0 W.length W = .ok none) (e1 : hsR a0 a1 a2 a3 a4 a5 a6 a7 a8 1 W.length W = .ok (some m)) : Gives Tryd.prog 42 [C9 a0 a1 a2 a3 a4 a5 a6 a7 a8, .slice 0 0 W.length W.length] [.obj (.ints .u64 W 43)] (Is (rlV (.ok (rfO ([] : List Int) m (a5 + a7).toNat))) (rlL (.ints .u64 W 43) (.ok (rfO ([] : List Int) m (a5 + a7).toNat)))) := by
  have hrA := right_iff.1 hr
  have o0 : lsOb (.ok none) W.length W.length W := .inl ⟨rfl, rfl, hU⟩
  have o1 : lsOb (.ok (some m)) W.length W.length W := .inl ⟨rfl, rfl, hU⟩
  have hAB : IntKind.i64.wrap (a5 + a7) = a5 + a7 := wi64 (by omega) (by omega)
  have hX := hXRf (.ok none) (.ok (some m))
  refine gives_x hX (fn := Tryd.f42) rfl rfl rfl rfl fun ρ w => ?_
  refine sxb hX [.l] [.F, .F] 4000 rfl (by simp [conjP, sel0, sel1, e0, e1, o0, o1]) ?_
  refine ss_sub hX (T' := rfTns none 0) (H' := rfHns a0 a1 a2 a3 a4 a5 a6 a7 a8 W m none) [0, 1, 2, 3, 4, 5, 99] rfl rfl rfl rfl (by (repeat' (first | exact rfl | exact trivial | exact sim_refl _ | refine And.intro ?_ ?_))) (by (repeat' (first | exact rfl | exact trivial | exact sim_refl _ | refine And.intro ?_ ?_))) (by (repeat' (first | exact rfl | exact trivial | exact sim_refl _ | refine And.intro ?_ ?_))) (by (repeat' (first | exact rfl | exact trivial | exact sim_refl _ | refine And.intro ?_ ?_))) ?_
  refine ss_loop hX (fun x : Nat × Option (List Int) => rfTns x.2 x.1) (fun x => rfHns a0 a1 a2 a3 a4 a5 a6 a7 a8 W m x.2) (fun x => x.2 = rfO ([] : List Int) m x.1 ∧ x.1 ≤ (a5 + a7).toNat) (fun x => (a5 + a7).toNat - x.1) (0, none) ⟨rfl, Nat.zero_le _⟩ ?_
  rintro ⟨j, acc⟩ ⟨hacc, hj⟩ I back
  dsimp only at hacc hj
  dsimp only
  have hlen := rfO_le ([] : List Int) m j
  rw [← hacc] at hlen
  have ewj : IntKind.i64.wrap (((j + 1 : Nat) : Int) + 1) = ((j + 1 + 1 : Nat) : Int) := by rw [wi64 (by omega) (by omega)]; omega
  by_cases hjn : j < (a5 + a7).toNat
  · have hle : ((j + 1 : Nat) : Int) ≤ a5 + a7 := by omega
    cases acc with
    | none =>
      dsimp only [rfTns, rfHns, slV, slE]
      by_cases hh : hasL ([] : List Int) ((j + 1 : Nat) : Int) = true ∨ hasL m ((j + 1 : Nat) : Int) = true
      · have hs : rfO ([] : List Int) m (j + 1) = some (lst (none : Option (List Int)) ++ [((j + 1 : Nat) : Int)]) := by rw [rfO, if_pos hh, ← hacc]
        rcases hB0 : hasL ([] : List Int) ((j + 1 : Nat) : Int) with _ | _
        · have hB1 : hasL m ((j + 1 : Nat) : Int) = true := by rcases hh with q | q; (rw [hB0] at q; simp at q); exact q
          have hC0 : hasL ([] : List Int) ((j : Int) + 1) = false := hB0
          have hC1 : hasL m ((j : Int) + 1) = true := hB1
          refine sx hX [] 4000 rfl (by (simp [-List.getD_eq_getElem?_getD, -List.length_eq_zero_iff, conjP] <;> (first | omega | ((repeat' (refine And.intro ?_ ?_)) <;> (first | omega | exact decide_eq_false (by omega) | exact decide_eq_true (by omega)))))) ?_
          refine sx hX [.T] 4000 rfl (by (simp [-List.getD_eq_getElem?_getD, -List.length_eq_zero_iff, conjP, addOP, hAB] <;> (first | omega | ((repeat' (refine And.intro ?_ ?_)) <;> (first | omega | exact decide_eq_false (by omega) | exact decide_eq_true (by omega)))))) ?_
          refine sx hX [.F] 4000 rfl (by (simp [-List.getD_eq_getElem?_getD, -List.length_eq_zero_iff, conjP, hm] <;> (first | omega | ((repeat' (refine And.intro ?_ ?_)) <;> (first | omega | exact decide_eq_false (by omega) | exact decide_eq_true (by omega)))))) ?_
          refine sx hX [.T] 4000 rfl (by (simp [-List.getD_eq_getElem?_getD, -List.length_eq_zero_iff, conjP, hC1] <;> (first | omega | ((repeat' (refine And.intro ?_ ?_)) <;> (first | omega | exact decide_eq_false (by omega) | exact decide_eq_true (by omega)))))) ?_
          (refine back (j + 1, some (lst (none : Option (List Int)) ++ [((j + 1 : Nat) : Int)])) ⟨?q, ?b⟩ ?c _ _ _ (sub_of [0, 1, 2, 3, 4, 5, 9] rfl rfl rfl rfl ?tt ?hh (by (repeat' (first | exact rfl | exact trivial | exact sim_refl _ | refine And.intro ?_ ?_))) (by (repeat' (first | exact rfl | exact trivial | exact sim_refl _ | refine And.intro ?_ ?_)))); (case tt => exact ⟨by (repeat' (first | exact rfl | exact trivial | exact sim_refl _ | refine And.intro ?_ ?_)), by (repeat' (first | exact rfl | exact trivial | exact sim_refl _ | refine And.intro ?_ ?_)), by (repeat' (first | exact rfl | exact trivial | exact sim_refl _ | refine And.intro ?_ ?_)), by (repeat' (first | exact rfl | exact trivial | exact sim_refl _ | refine And.intro ?_ ?_)), by (repeat' (first | exact rfl | exact trivial | exact sim_refl _ | (simp; done) | (unfold mulS; simp; done) | (unfold lst; simp; done) | (unfold lst mulS; simp; done) | assumption | refine And.intro ?_ ?_)), ⟨rfl, ewj⟩, trivial⟩); (case hh => (repeat' (first | exact rfl | exact trivial | exact sim_refl _ | (simp; done) | (unfold mulS; simp; done) | (unfold lst; simp; done) | (unfold lst mulS; simp; done) | assumption | refine And.intro ?_ ?_)); done); (case q => exact hs.symm); (case b => (dsimp only; omega)); (case c => (dsimp only; omega)))
        · simp [hasL_nil] at hB0
      · have hs : rfO ([] : List Int) m (j + 1) = (none : Option (List Int)) := by rw [rfO, if_neg hh, ← hacc]
        have hB0 : hasL ([] : List Int) ((j + 1 : Nat) : Int) = false := by simpa using fun q => hh (.inl q)
        have hB1 : hasL m ((j + 1 : Nat) : Int) = false := by simpa using fun q => hh (.inr q)
        have hC0 : hasL ([] : List Int) ((j : Int) + 1) = false := hB0
        have hC1 : hasL m ((j : Int) + 1) = false := hB1
        refine sx hX [] 4000 rfl (by (simp [-List.getD_eq_getElem?_getD, -List.length_eq_zero_iff, conjP] <;> (first | omega | ((repeat' (refine And.intro ?_ ?_)) <;> (first | omega | exact decide_eq_false (by omega) | exact decide_eq_true (by omega)))))) ?_
        refine sx hX [.T] 4000 rfl (by (simp [-List.getD_eq_getElem?_getD, -List.length_eq_zero_iff, conjP, addOP, hAB] <;> (first | omega | ((repeat' (refine And.intro ?_ ?_)) <;> (first | omega | exact decide_eq_false (by omega) | exact decide_eq_true (by omega)))))) ?_
        refine sx hX [.F] 4000 rfl (by (simp [-List.getD_eq_getElem?_getD, -List.length_eq_zero_iff, conjP, hm] <;> (first | omega | ((repeat' (refine And.intro ?_ ?_)) <;> (first | omega | exact decide_eq_false (by omega) | exact decide_eq_true (by omega)))))) ?_
        refine sx hX [.F] 4000 rfl (by (simp [-List.getD_eq_getElem?_getD, -List.length_eq_zero_iff, conjP, addOP, hC1] <;> (first | omega | ((repeat' (refine And.intro ?_ ?_)) <;> (first | omega | exact decide_eq_false (by omega) | exact decide_eq_true (by omega)))))) ?_
        (refine back (j + 1, (none : Option (List Int))) ⟨?q, ?b⟩ ?c _ _ _ (sub_of [0, 1, 2, 3, 4, 5, 6] rfl rfl rfl rfl ?tt ?hh (by (repeat' (first | exact rfl | exact trivial | exact sim_refl _ | refine And.intro ?_ ?_))) (by (repeat' (first | exact rfl | exact trivial | exact sim_refl _ | refine And.intro ?_ ?_)))); (case tt => exact ⟨by (repeat' (first | exact rfl | exact trivial | exact sim_refl _ | refine And.intro ?_ ?_)), by (repeat' (first | exact rfl | exact trivial | exact sim_refl _ | refine And.intro ?_ ?_)), by (repeat' (first | exact rfl | exact trivial | exact sim_refl _ | refine And.intro ?_ ?_)), by (repeat' (first | exact rfl | exact trivial | exact sim_refl _ | refine And.intro ?_ ?_)), by (repeat' (first | exact rfl | exact trivial | exact sim_refl _ | refine And.intro ?_ ?_)), ⟨rfl, ewj⟩, trivial⟩); (case hh => (repeat' (first | exact rfl | exact trivial | exact sim_refl _ | refine And.intro ?_ ?_)); done); (case q => exact hs.symm); (case b => (dsimp only; omega)); (case c => (dsimp only; omega)))
    | some g =>
      have hg : g.length ≤ 30 := by have : (lst (some g)).length = g.length := rfl; omega
      dsimp only [rfTns, rfHns, slV, slE]
      by_cases hh : hasL ([] : List Int) ((j + 1 : Nat) : Int) = true ∨ hasL m ((j + 1 : Nat) : Int) = true
      · have hs : rfO ([] : List Int) m (j + 1) = some (lst (some g : Option (List Int)) ++ [((j + 1 : Nat) : Int)]) := by rw [rfO, if_pos hh, ← hacc]
        rcases hB0 : hasL ([] : List Int) ((j + 1 : Nat) : Int) with _ | _
        · have hB1 : hasL m ((j + 1 : Nat) : Int) = true := by rcases hh with q | q; (rw [hB0] at q; simp at q); exact q
          have hC0 : hasL ([] : List Int) ((j : Int) + 1) = false := hB0
          have hC1 : hasL m ((j : Int) + 1) = true := hB1
          refine sx hX [] 4000 rfl (by (simp [-List.getD_eq_getElem?_getD, -List.length_eq_zero_iff, conjP] <;> (first | omega | ((repeat' (refine And.intro ?_ ?_)) <;> (first | omega | exact decide_eq_false (by omega) | exact decide_eq_true (by omega)))))) ?_
          refine sx hX [.T] 4000 rfl (by (simp [-List.getD_eq_getElem?_getD, -List.length_eq_zero_iff, conjP, addOP, hAB] <;> (first | omega | ((repeat' (refine And.intro ?_ ?_)) <;> (first | omega | exact decide_eq_false (by omega) | exact decide_eq_true (by omega)))))) ?_
          refine sx hX [.F] 4000 rfl (by (simp [-List.getD_eq_getElem?_getD, -List.length_eq_zero_iff, conjP, hm] <;> (first | omega | ((repeat' (refine And.intro ?_ ?_)) <;> (first | omega | exact decide_eq_false (by omega) | exact decide_eq_true (by omega)))))) ?_
          refine sx hX [.T] 4000 rfl (by (simp [-List.getD_eq_getElem?_getD, -List.length_eq_zero_iff, conjP, hC1] <;> (first | omega | ((repeat' (refine And.intro ?_ ?_)) <;> (first | omega | exact decide_eq_false (by omega) | exact decide_eq_true (by omega)))))) ?_
          (refine back (j + 1, some (lst (some g : Option (List Int)) ++ [((j + 1 : Nat) : Int)])) ⟨?q, ?b⟩ ?c _ _ _ (sub_of [0, 1, 2, 3, 4, 5, 9] rfl rfl rfl rfl ?tt ?hh (by (repeat' (first | exact rfl | exact trivial | exact sim_refl _ | refine And.intro ?_ ?_))) (by (repeat' (first | exact rfl | exact trivial | exact sim_refl _ | refine And.intro ?_ ?_)))); (case tt => exact ⟨by (repeat' (first | exact rfl | exact trivial | exact sim_refl _ | refine And.intro ?_ ?_)), by (repeat' (first | exact rfl | exact trivial | exact sim_refl _ | refine And.intro ?_ ?_)), by (repeat' (first | exact rfl | exact trivial | exact sim_refl _ | refine And.intro ?_ ?_)), by (repeat' (first | exact rfl | exact trivial | exact sim_refl _ | refine And.intro ?_ ?_)), by (repeat' (first | exact rfl | exact trivial | exact sim_refl _ | (simp; done) | (unfold mulS; simp; done) | (unfold lst; simp; done) | (unfold lst mulS; simp; done) | assumption | refine And.intro ?_ ?_)), ⟨rfl, ewj⟩, trivial⟩); (case hh => (repeat' (first | exact rfl | exact trivial | exact sim_refl _ | (simp; done) | (unfold mulS; simp; done) | (unfold lst; simp; done) | (unfold lst mulS; simp; done) | assumption | refine And.intro ?_ ?_)); done); (case q => exact hs.symm); (case b => (dsimp only; omega)); (case c => (dsimp only; omega)))
        · simp [hasL_nil] at hB0
      · have hs : rfO ([] : List Int) m (j + 1) = (some g : Option (List Int)) := by rw [rfO, if_neg hh, ← hacc]
        have hB0 : hasL ([] : List Int) ((j + 1 : Nat) : Int) = false := by simpa using fun q => hh (.inl q)
        have hB1 : hasL m ((j + 1 : Nat) : Int) = false := by simpa using fun q => hh (.inr q)
        have hC0 : hasL ([] : List Int) ((j : Int) + 1) = false := hB0
        have hC1 : hasL m ((j : Int) + 1) = false := hB1
        refine sx hX [] 4000 rfl (by (simp [-List.getD_eq_getElem?_getD, -List.length_eq_zero_iff, conjP] <;> (first | omega | ((repeat' (refine And.intro ?_ ?_)) <;> (first | omega | exact decide_eq_false (by omega) | exact decide_eq_true (by omega)))))) ?_
        refine sx hX [.T] 4000 rfl (by (simp [-List.getD_eq_getElem?_getD, -List.length_eq_zero_iff, conjP, addOP, hAB] <;> (first | omega | ((repeat' (refine And.intro ?_ ?_)) <;> (first | omega | exact decide_eq_false (by omega) | exact decide_eq_true (by omega)))))) ?_
        refine sx hX [.F] 4000 rfl (by (simp [-List.getD_eq_getElem?_getD, -List.length_eq_zero_iff, conjP, hm] <;> (first | omega | ((repeat' (refine And.intro ?_ ?_)) <;> (first | omega | exact decide_eq_false (by omega) | exact decide_eq_true (by omega)))))) ?_
        refine sx hX [.F] 4000 rfl (by (simp [-List.getD_eq_getElem?_getD, -List.length_eq_zero_iff, conjP, addOP, hC1] <;> (first | omega | ((repeat' (refine And.intro ?_ ?_)) <;> (first | omega | exact decide_eq_false (by omega) | exact decide_eq_true (by omega)))))) ?_
        (refine back (j + 1, (some g : Option (List Int))) ⟨?q, ?b⟩ ?c _ _ _ (sub_of [0, 1, 2, 3, 4, 5, 6] rfl rfl rfl rfl ?tt ?hh (by (repeat' (first | exact rfl | exact trivial | exact sim_refl _ | refine And.intro ?_ ?_))) (by (repeat' (first | exact rfl | exact trivial | exact sim_refl _ | refine And.intro ?_ ?_)))); (case tt => exact ⟨by (repeat' (first | exact rfl | exact trivial | exact sim_refl _ | refine And.intro ?_ ?_)), by (repeat' (first | exact rfl | exact trivial | exact sim_refl _ | refine And.intro ?_ ?_)), by (repeat' (first | exact rfl | exact trivial | exact sim_refl _ | refine And.intro ?_ ?_)), by (repeat' (first | exact rfl | exact trivial | exact sim_refl _ | refine And.intro ?_ ?_)), by (repeat' (first | exact rfl | exact trivial | exact sim_refl _ | refine And.intro ?_ ?_)), ⟨rfl, ewj⟩, trivial⟩); (case hh => (repeat' (first | exact rfl | exact trivial | exact sim_refl _ | refine And.intro ?_ ?_)); done); (case q => exact hs.symm); (case b => (dsimp only; omega)); (case c => (dsimp only; omega)))
  · have hle : ¬ ((j + 1 : Nat) : Int) ≤ a5 + a7 := by omega
    have hje : j = (a5 + a7).toNat := by omega
    rw [← hje, ← hacc]
    cases acc with
    | none =>
      dsimp only [rfTns, rfHns, slV, slE]
      refine sx hX [] 4000 rfl (by (simp [-List.getD_eq_getElem?_getD, -List.length_eq_zero_iff, conjP] <;> (first | omega | ((repeat' (refine And.intro ?_ ?_)) <;> (first | omega | exact decide_eq_false (by omega) | exact decide_eq_true (by omega)))))) ?_
      refine sx hX [.F] 4000 rfl (by (simp [-List.getD_eq_getElem?_getD, -List.length_eq_zero_iff, conjP, addOP, hAB] <;> (first | omega | ((repeat' (refine And.intro ?_ ?_)) <;> (first | omega | exact decide_eq_false (by omega) | exact decide_eq_true (by omega)))))) ?_
      (exact ss_end hX [0] rfl rfl trivial rfl rfl rfl rfl (by (repeat' (first | exact rfl | exact trivial | exact sim_refl _ | refine And.intro ?_ ?_))) (by (repeat' (first | exact rfl | exact trivial | exact sim_refl _ | refine And.intro ?_ ?_))) (by (repeat' (first | exact rfl | exact trivial | exact sim_refl _ | refine And.intro ?_ ?_))) (by (repeat' (first | exact rfl | exact trivial | exact sim_refl _ | refine And.intro ?_ ?_))))
    | some g =>
      dsimp only [rfTns, rfHns, slV, slE]
      refine sx hX [] 4000 rfl (by (simp [-List.getD_eq_getElem?_getD, -List.length_eq_zero_iff, conjP] <;> (first | omega | ((repeat' (refine And.intro ?_ ?_)) <;> (first | omega | exact decide_eq_false (by omega) | exact decide_eq_true (by omega)))))) ?_
      refine sx hX [.F] 4000 rfl (by (simp [-List.getD_eq_getElem?_getD, -List.length_eq_zero_iff, conjP, addOP, hAB] <;> (first | omega | ((repeat' (refine And.intro ?_ ?_)) <;> (first | omega | exact decide_eq_false (by omega) | exact decide_eq_true (by omega)))))) ?_
      (exact ss_end hX [0, 6] rfl rfl trivial rfl rfl rfl rfl (by (repeat' (first | exact rfl | exact trivial | exact sim_refl _ | refine And.intro ?_ ?_))) (by (repeat' (first | exact rfl | exact trivial | exact sim_refl _ | refine And.intro ?_ ?_))) (by (repeat' (first | exact rfl | exact trivial | exact sim_refl _ | refine And.intro ?_ ?_))) (by (repeat' (first | exact rfl | exact trivial | exact sim_refl _ | refine And.intro ?_ ?_))))

def rfTsn (acc : Option (List Int)) (j : Nat) : List (Nat × SV) := [(2, .ptr 1 0), (4, .ptr 2 0), (5, .ptr 4 0), (6, .ptr 5 0), (7, slV acc 6), (8, .int .i64 ((j + 1 : Nat) : Int))]
def rfHsn (a0 a1 a2 a3 a4 a5 a6 a7 a8 : Int) (W : List Int) (l : List Int) (acc : Option (List Int)) : List HE := [.obj (.ints .u64 W 43), c9O a0 a1 a2 a3 a4 a5 a6 a7 a8, .obj (.cells [.nilslice, .int .i64 0, .int .i64 0, .ff] 83), IB l, .obj (.cells [.sbuf 3 1 0 l.length, .int .i64 0, .int .i64 0, .ff] 83), .obj (.cells [.nilslice, .int .i64 0, .int .i64 0, .ff] 83), slE acc .i64 3]
set_option maxHeartbeats 8000000 in
theorem rf_sn {l : List Int} (hl : l.length < 1000000) (hr : rightB a0 a1 a2 a3 a4 a5 a6 a7 a8 = true) (hU : InU W) (e0 : hsR a0 a1 a2 a3 a4 a5 a6 a7 a8 0 W.length W = .ok (some l)) (e1 : hsR a0 a1 a2 a3 a4 a5 a6 a7 a8 1 W.length W = .ok none) : Gives Tryd.prog 42 [C9 a0 a1 a2 a3 a4 a5 a6 a7 a8, .slice 0 0 W.length W.length] [.obj (.ints .u64 W 43)] (Is (rlV (.ok (rfO l ([] : List Int) (a5 + a7).toNat))) (rlL (.ints .u64 W 43) (.ok (rfO l ([] : List Int) (a5 + a7).toNat)))) := by
  have hrA := right_iff.1 hr
  have o0 : lsOb (.ok (some l)) W.length W.length W := .inl ⟨rfl, rfl, hU⟩
  have o1 : lsOb (.ok none) W.length W.length W := .inl ⟨rfl, rfl, hU⟩
  have hAB : IntKind.i64.wrap (a5 + a7) = a5 + a7 := wi64 (by omega) (by omega)
  have hX := hXRf (.ok (some l)) (.ok none)
  refine gives_x hX (fn := Tryd.f42) rfl rfl rfl rfl fun ρ w => ?_
  refine sxb hX [.l] [.F, .F] 4000 rfl (by simp [conjP, sel0, sel1, e0, e1, o0, o1]) ?_
  refine ss_sub hX (T' := rfTsn none 0) (H' := rfHsn a0 a1 a2 a3 a4 a5 a6 a7 a8 W l none) [0, 1, 2, 3, 4, 5, 99] rfl rfl rfl rfl (by (repeat' (first | exact rfl | exact trivial | exact sim_refl _ | refine And.intro ?_ ?_))) (by (repeat' (first | exact rfl | exact trivial | exact sim_refl _ | refine And.intro ?_ ?_))) (by (repeat' (first | exact rfl | exact trivial | exact sim_refl _ | refine And.intro ?_ ?_))) (by (repeat' (first | exact rfl | exact trivial | exact sim_refl _ | refine And.intro ?_ ?_))) ?_
  refine ss_loop hX (fun x : Nat × Option (List Int) => rfTsn x.2 x.1) (fun x => rfHsn a0 a1 a2 a3 a4 a5 a6 a7 a8 W l x.2) (fun x => x.2 = rfO l ([] : List Int) x.1 ∧ x.1 ≤ (a5 + a7).toNat) (fun x => (a5 + a7).toNat - x.1) (0, none) ⟨rfl, Nat.zero_le _⟩ ?_
  rintro ⟨j, acc⟩ ⟨hacc, hj⟩ I back
  dsimp only at hacc hj
  dsimp only
  have hlen := rfO_le l ([] : List Int) j
  rw [← hacc] at hlen
  have ewj : IntKind.i64.wrap (((j + 1 : Nat) : Int) + 1) = ((j + 1 + 1 : Nat) : Int) := by rw [wi64 (by omega) (by omega)]; omega
  by_cases hjn : j < (a5 + a7).toNat
  · have hle : ((j + 1 : Nat) : Int) ≤ a5 + a7 := by omega
    cases acc with
    | none =>
      dsimp only [rfTsn, rfHsn, slV, slE]
      by_cases hh : hasL l ((j + 1 : Nat) : Int) = true ∨ hasL ([] : List Int) ((j + 1 : Nat) : Int) = true
      · have hs : rfO l ([] : List Int) (j + 1) = some (lst (none : Option (List Int)) ++ [((j + 1 : Nat) : Int)]) := by rw [rfO, if_pos hh, ← hacc]
        rcases hB0 : hasL l ((j + 1 : Nat) : Int) with _ | _
        · have hB1 : hasL ([] : List Int) ((j + 1 : Nat) : Int) = true := by rcases hh with q | q; (rw [hB0] at q; simp at q); exact q
          have hC0 : hasL l ((j : Int) + 1) = false := hB0
          have hC1 : hasL ([] : List Int) ((j : Int) + 1) = true := hB1
          simp [hasL_nil] at hB1
        · have hC0 : hasL l ((j : Int) + 1) = true := hB0
          refine sx hX [] 4000 rfl (by (simp [-List.getD_eq_getElem?_getD, -List.length_eq_zero_iff, conjP] <;> (first | omega | ((repeat' (refine And.intro ?_ ?_)) <;> (first | omega | exact decide_eq_false (by omega) | exact decide_eq_true (by omega)))))) ?_
          refine sx hX [.T] 4000 rfl (by (simp [-List.getD_eq_getElem?_getD, -List.length_eq_zero_iff, conjP, hAB, hl] <;> (first | omega | ((repeat' (refine And.intro ?_ ?_)) <;> (first | omega | exact decide_eq_false (by omega) | exact decide_eq_true (by omega)))))) ?_
          refine sx hX [.T] 4000 rfl (by (simp [-List.getD_eq_getElem?_getD, -List.length_eq_zero_iff, conjP, hC0] <;> (first | omega | ((repeat' (refine And.intro ?_ ?_)) <;> (first | omega | exact decide_eq_false (by omega) | exact decide_eq_true (by omega)))))) ?_
          (refine back (j + 1, some (lst (none : Option (List Int)) ++ [((j + 1 : Nat) : Int)])) ⟨?q, ?b⟩ ?c _ _ _ (sub_of [0, 1, 2, 3, 4, 5, 9] rfl rfl rfl rfl ?tt ?hh (by (repeat' (first | exact rfl | exact trivial | exact sim_refl _ | refine And.intro ?_ ?_))) (by (repeat' (first | exact rfl | exact trivial | exact sim_refl _ | refine And.intro ?_ ?_)))); (case tt => exact ⟨by (repeat' (first | exact rfl | exact trivial | exact sim_refl _ | refine And.intro ?_ ?_)), by (repeat' (first | exact rfl | exact trivial | exact sim_refl _ | refine And.intro ?_ ?_)), by (repeat' (first | exact rfl | exact trivial | exact sim_refl _ | refine And.intro ?_ ?_)), by (repeat' (first | exact rfl | exact trivial | exact sim_refl _ | refine And.intro ?_ ?_)), by (repeat' (first | exact rfl | exact trivial | exact sim_refl _ | (simp; done) | (unfold mulS; simp; done) | (unfold lst; simp; done) | (unfold lst mulS; simp; done) | assumption | refine And.intro ?_ ?_)), ⟨rfl, ewj⟩, trivial⟩); (case hh => (repeat' (first | exact rfl | exact trivial | exact sim_refl _ | (simp; done) | (unfold mulS; simp; done) | (unfold lst; simp; done) | (unfold lst mulS; simp; done) | assumption | refine And.intro ?_ ?_)); done); (case q => exact hs.symm); (case b => (dsimp only; omega)); (case c => (dsimp only; omega)))
      · have hs : rfO l ([] : List Int) (j + 1) = (none : Option (List Int)) := by rw [rfO, if_neg hh, ← hacc]
        have hB0 : hasL l ((j + 1 : Nat) : Int) = false := by simpa using fun q => hh (.inl q)
        have hB1 : hasL ([] : List Int) ((j + 1 : Nat) : Int) = false := by simpa using fun q => hh (.inr q)
        have hC0 : hasL l ((j : Int) + 1) = false := hB0
        have hC1 : hasL ([] : List Int) ((j : Int) + 1) = false := hB1
        refine sx hX [] 4000 rfl (by (simp [-List.getD_eq_getElem?_getD, -List.length_eq_zero_iff, conjP] <;> (first | omega | ((repeat' (refine And.intro ?_ ?_)) <;> (first | omega | exact decide_eq_false (by omega) | exact decide_eq_true (by omega)))))) ?_
        refine sx hX [.T] 4000 rfl (by (simp [-List.getD_eq_getElem?_getD, -List.length_eq_zero_iff, conjP, hAB, hl] <;> (first | omega | ((repeat' (refine And.intro ?_ ?_)) <;> (first | omega | exact decide_eq_false (by omega) | exact decide_eq_true (by omega)))))) ?_
        refine sx hX [.F] 4000 rfl (by (simp [-List.getD_eq_getElem?_getD, -List.length_eq_zero_iff, conjP, addOP, hC0] <;> (first | omega | ((repeat' (refine And.intro ?_ ?_)) <;> (first | omega | exact decide_eq_false (by omega) | exact decide_eq_true (by omega)))))) ?_
        refine sx hX [.F] 4000 rfl (by (simp [-List.getD_eq_getElem?_getD, -List.length_eq_zero_iff, conjP, addOP] <;> (first | omega | ((repeat' (refine And.intro ?_ ?_)) <;> (first | omega | exact decide_eq_false (by omega) | exact decide_eq_true (by omega)))))) ?_
        (refine back (j + 1, (none : Option (List Int))) ⟨?q, ?b⟩ ?c _ _ _ (sub_of [0, 1, 2, 3, 4, 5, 6] rfl rfl rfl rfl ?tt ?hh (by (repeat' (first | exact rfl | exact trivial | exact sim_refl _ | refine And.intro ?_ ?_))) (by (repeat' (first | exact rfl | exact trivial | exact sim_refl _ | refine And.intro ?_ ?_)))); (case tt => exact ⟨by (repeat' (first | exact rfl | exact trivial | exact sim_refl _ | refine And.intro ?_ ?_)), by (repeat' (first | exact rfl | exact trivial | exact sim_refl _ | refine And.intro ?_ ?_)), by (repeat' (first | exact rfl | exact trivial | exact sim_refl _ | refine And.intro ?_ ?_)), by (repeat' (first | exact rfl | exact trivial | exact sim_refl _ | refine And.intro ?_ ?_)), by (repeat' (first | exact rfl | exact trivial | exact sim_refl _ | refine And.intro ?_ ?_)), ⟨rfl, ewj⟩, trivial⟩); (case hh => (repeat' (first | exact rfl | exact trivial | exact sim_refl _ | refine And.intro ?_ ?_)); done); (case q => exact hs.symm); (case b => (dsimp only; omega)); (case c => (dsimp only; omega)))
    | some g =>
      have hg : g.length ≤ 30 := by have : (lst (some g)).length = g.length := rfl; omega
      dsimp only [rfTsn, rfHsn, slV, slE]
      by_cases hh : hasL l ((j + 1 : Nat) : Int) = true ∨ hasL ([] : List Int) ((j + 1 : Nat) : Int) = true
      · have hs : rfO l ([] : List Int) (j + 1) = some (lst (some g : Option (List Int)) ++ [((j + 1 : Nat) : Int)]) := by rw [rfO, if_pos hh, ← hacc]
        rcases hB0 : hasL l ((j + 1 : Nat) : Int) with _ | _
        · have hB1 : hasL ([] : List Int) ((j + 1 : Nat) : Int) = true := by rcases hh with q | q; (rw [hB0] at q; simp at q); exact q
          have hC0 : hasL l ((j : Int) + 1) = false := hB0
          have hC1 : hasL ([] : List Int) ((j : Int) + 1) = true := hB1
          simp [hasL_nil] at hB1
        · have hC0 : hasL l ((j : Int) + 1) = true := hB0
          refine sx hX [] 4000 rfl (by (simp [-List.getD_eq_getElem?_getD, -List.length_eq_zero_iff, conjP] <;> (first | omega | ((repeat' (refine And.intro ?_ ?_)) <;> (first | omega | exact decide_eq_false (by omega) | exact decide_eq_true (by omega)))))) ?_
          refine sx hX [.T] 4000 rfl (by (simp [-List.getD_eq_getElem?_getD, -List.length_eq_zero_iff, conjP, hAB, hl] <;> (first | omega | ((repeat' (refine And.intro ?_ ?_)) <;> (first | omega | exact decide_eq_false (by omega) | exact decide_eq_true (by omega)))))) ?_
          refine sx hX [.T] 4000 rfl (by (simp [-List.getD_eq_getElem?_getD, -List.length_eq_zero_iff, conjP, hC0] <;> (first | omega | ((repeat' (refine And.intro ?_ ?_)) <;> (first | omega | exact decide_eq_false (by omega) | exact decide_eq_true (by omega)))))) ?_
          (refine back (j + 1, some (lst (some g : Option (List Int)) ++ [((j + 1 : Nat) : Int)])) ⟨?q, ?b⟩ ?c _ _ _ (sub_of [0, 1, 2, 3, 4, 5, 9] rfl rfl rfl rfl ?tt ?hh (by (repeat' (first | exact rfl | exact trivial | exact sim_refl _ | refine And.intro ?_ ?_))) (by (repeat' (first | exact rfl | exact trivial | exact sim_refl _ | refine And.intro ?_ ?_)))); (case tt => exact ⟨by (repeat' (first | exact rfl | exact trivial | exact sim_refl _ | refine And.intro ?_ ?_)), by (repeat' (first | exact rfl | exact trivial | exact sim_refl _ | refine And.intro ?_ ?_)), by (repeat' (first | exact rfl | exact trivial | exact sim_refl _ | refine And.intro ?_ ?_)), by (repeat' (first | exact rfl | exact trivial | exact sim_refl _ | refine And.intro ?_ ?_)), by (repeat' (first | exact rfl | exact trivial | exact sim_refl _ | (simp; done) | (unfold mulS; simp; done) | (unfold lst; simp; done) | (unfold lst mulS; simp; done) | assumption | refine And.intro ?_ ?_)), ⟨rfl, ewj⟩, trivial⟩); (case hh => (repeat' (first | exact rfl | exact trivial | exact sim_refl _ | (simp; done) | (unfold mulS; simp; done) | (unfold lst; simp; done) | (unfold lst mulS; simp; done) | assumption | refine And.intro ?_ ?_)); done); (case q => exact hs.symm); (case b => (dsimp only; omega)); (case c => (dsimp only; omega)))
      · have hs : rfO l ([] : List Int) (j + 1) = (some g : Option (List Int)) := by rw [rfO, if_neg hh, ← hacc]
        have hB0 : hasL l ((j + 1 : Nat) : Int) = false := by simpa using fun q => hh (.inl q)
        have hB1 : hasL ([] : List Int) ((j + 1 : Nat) : Int) = false := by simpa using fun q => hh (.inr q)
        have hC0 : hasL l ((j : Int) + 1) = false := hB0
        have hC1 : hasL ([] : List Int) ((j : Int) + 1) = false := hB1
        refine sx hX [] 4000 rfl (by (simp [-List.getD_eq_getElem?_getD, -List.length_eq_zero_iff, conjP] <;> (first | omega | ((repeat' (refine And.intro ?_ ?_)) <;> (first | omega | exact decide_eq_false (by omega) | exact decide_eq_true (by omega)))))) ?_
        refine sx hX [.T] 4000 rfl (by (simp [-List.getD_eq_getElem?_getD, -List.length_eq_zero_iff, conjP, hAB, hl] <;> (first | omega | ((repeat' (refine And.intro ?_ ?_)) <;> (first | omega | exact decide_eq_false (by omega) | exact decide_eq_true (by omega)))))) ?_
        refine sx hX [.F] 4000 rfl (by (simp [-List.getD_eq_getElem?_getD, -List.length_eq_zero_iff, conjP, addOP, hC0] <;> (first | omega | ((repeat' (refine And.intro ?_ ?_)) <;> (first | omega | exact decide_eq_false (by omega) | exact decide_eq_true (by omega)))))) ?_
        refine sx hX [.F] 4000 rfl (by (simp [-List.getD_eq_getElem?_getD, -List.length_eq_zero_iff, conjP, addOP] <;> (first | omega | ((repeat' (refine And.intro ?_ ?_)) <;> (first | omega | exact decide_eq_false (by omega) | exact decide_eq_true (by omega)))))) ?_
        (refine back (j + 1, (some g : Option (List Int))) ⟨?q, ?b⟩ ?c _ _ _ (sub_of [0, 1, 2, 3, 4, 5, 6] rfl rfl rfl rfl ?tt ?hh (by (repeat' (first | exact rfl | exact trivial | exact sim_refl _ | refine And.intro ?_ ?_))) (by (repeat' (first | exact rfl | exact trivial | exact sim_refl _ | refine And.intro ?_ ?_)))); (case tt => exact ⟨by (repeat' (first | exact rfl | exact trivial | exact sim_refl _ | refine And.intro ?_ ?_)), by (repeat' (first | exact rfl | exact trivial | exact sim_refl _ | refine And.intro ?_ ?_)), by (repeat' (first | exact rfl | exact trivial | exact sim_refl _ | refine And.intro ?_ ?_)), by (repeat' (first | exact rfl | exact trivial | exact sim_refl _ | refine And.intro ?_ ?_)), by (repeat' (first | exact rfl | exact trivial | exact sim_refl _ | refine And.intro ?_ ?_)), ⟨rfl, ewj⟩, trivial⟩); (case hh => (repeat' (first | exact rfl | exact trivial | exact sim_refl _ | refine And.intro ?_ ?_)); done); (case q => exact hs.symm); (case b => (dsimp only; omega)); (case c => (dsimp only; omega)))
  · have hle : ¬ ((j + 1 : Nat) : Int) ≤ a5 + a7 := by omega
    have hje : j = (a5 + a7).toNat := by omega
    rw [← hje, ← hacc]
    cases acc with
    | none =>
      dsimp only [rfTsn, rfHsn, slV, slE]
      refine sx hX [] 4000 rfl (by (simp [-List.getD_eq_getElem?_getD, -List.length_eq_zero_iff, conjP] <;> (first | omega | ((repeat' (refine And.intro ?_ ?_)) <;> (first | omega | exact decide_eq_false (by omega) | exact decide_eq_true (by omega)))))) ?_
      refine sx hX [.F] 4000 rfl (by (simp [-List.getD_eq_getElem?_getD, -List.length_eq_zero_iff, conjP, addOP, hAB] <;> (first | omega | ((repeat' (refine And.intro ?_ ?_)) <;> (first | omega | exact decide_eq_false (by omega) | exact decide_eq_true (by omega)))))) ?_
      (exact ss_end hX [0] rfl rfl trivial rfl rfl rfl rfl (by (repeat' (first | exact rfl | exact trivial | exact sim_refl _ | refine And.intro ?_ ?_))) (by (repeat' (first | exact rfl | exact trivial | exact sim_refl _ | refine And.intro ?_ ?_))) (by (repeat' (first | exact rfl | exact trivial | exact sim_refl _ | refine And.intro ?_ ?_))) (by (repeat' (first | exact rfl | exact trivial | exact sim_refl _ | refine And.intro ?_ ?_))))
    | some g =>
      dsimp only [rfTsn, rfHsn, slV, slE]
      refine sx hX [] 4000 rfl (by (simp [-List.getD_eq_getElem?_getD, -List.length_eq_zero_iff, conjP] <;> (first | omega | ((repeat' (refine And.intro ?_ ?_)) <;> (first | omega | exact decide_eq_false (by omega) | exact decide_eq_true (by omega)))))) ?_
      refine sx hX [.F] 4000 rfl (by (simp [-List.getD_eq_getElem?_getD, -List.length_eq_zero_iff, conjP, addOP, hAB] <;> (first | omega | ((repeat' (refine And.intro ?_ ?_)) <;> (first | omega | exact decide_eq_false (by omega) | exact decide_eq_true (by omega)))))) ?_
      (exact ss_end hX [0, 6] rfl rfl trivial rfl rfl rfl rfl (by (repeat' (first | exact rfl | exact trivial | exact sim_refl _ | refine And.intro ?_ ?_))) (by (repeat' (first | exact rfl | exact trivial | exact sim_refl _ | refine And.intro ?_ ?_))) (by (repeat' (first | exact rfl | exact trivial | exact sim_refl _ | refine And.intro ?_ ?_))) (by (repeat' (first | exact rfl | exact trivial | exact sim_refl _ | refine And.intro ?_ ?_))))

def rfTss (acc : Option (List Int)) (j : Nat) : List (Nat × SV) := [(2, .ptr 1 0), (4, .ptr 2 0), (5, .ptr 4 0), (6, .ptr 6 0), (7, slV acc 7), (8, .int .i64 ((j + 1 : Nat) : Int))]
def rfHss (a0 a1 a2 a3 a4 a5 a6 a7 a8 : Int) (W : List Int) (l : List Int) (m : List Int) (acc : Option (List Int)) : List HE := [.obj (.ints .u64 W 43), c9O a0 a1 a2 a3 a4 a5 a6 a7 a8, .obj (.cells [.nilslice, .int .i64 0, .int .i64 0, .ff] 83), IB l, .obj (.cells [.sbuf 3 1 0 l.length, .int .i64 0, .int .i64 0, .ff] 83), IB m, .obj (.cells [.sbuf 5 1 0 m.length, .int .i64 0, .int .i64 0, .ff] 83), slE acc .i64 3]
set_option maxHeartbeats 8000000 in
theorem rf_ss {l : List Int} {m : List Int} (hl : l.length < 1000000) (hm : m.length < 1000000) (hr : rightB a0 a1 a2 a3 a4 a5 a6 a7 a8 = true) (hU : InU W) (e0 : hsR a0 a1 a2 a3 a4 a5 a6 a7 a8 0 W.length W = .ok (some l)) (e1 : hsR a0 a1 a2 a3 a4 a5 a6 a7 a8 1 W.length W = .ok (some m)) : Gives Tryd.prog 42 [C9 a0 a1 a2 a3 a4 a5 a6 a7 a8, .slice 0 0 W.length W.length] [.obj (.ints .u64 W 43)] (Is (rlV (.ok (rfO l m (a5 + a7).toNat))) (rlL (.ints .u64 W 43) (.ok (rfO l m (a5 + a7).toNat)))) := by
  have hrA := right_iff.1 hr
  have o0 : lsOb (.ok (some l)) W.length W.length W := .inl ⟨rfl, rfl, hU⟩
  have o1 : lsOb (.ok (some m)) W.length W.length W := .inl ⟨rfl, rfl, hU⟩
  have hAB : IntKind.i64.wrap (a5 + a7) = a5 + a7 := wi64 (by omega) (by omega)
  have hX := hXRf (.ok (some l)) (.ok (some m))
  refine gives_x hX (fn := Tryd.f42) rfl rfl rfl rfl fun ρ w => ?_
  refine sxb hX [.l] [.F, .F] 4000 rfl (by simp [conjP, sel0, sel1, e0, e1, o0, o1]) ?_
  refine ss_sub hX (T' := rfTss none 0) (H' := rfHss a0 a1 a2 a3 a4 a5 a6 a7 a8 W l m none) [0, 1, 2, 3, 4, 5, 6, 99] rfl rfl rfl rfl (by (repeat' (first | exact rfl | exact trivial | exact sim_refl _ | refine And.intro ?_ ?_))) (by (repeat' (first | exact rfl | exact trivial | exact sim_refl _ | refine And.intro ?_ ?_))) (by (repeat' (first | exact rfl | exact trivial | exact sim_refl _ | refine And.intro ?_ ?_))) (by (repeat' (first | exact rfl | exact trivial | exact sim_refl _ | refine And.intro ?_ ?_))) ?_
  refine ss_loop hX (fun x : Nat × Option (List Int) => rfTss x.2 x.1) (fun x => rfHss a0 a1 a2 a3 a4 a5 a6 a7 a8 W l m x.2) (fun x => x.2 = rfO l m x.1 ∧ x.1 ≤ (a5 + a7).toNat) (fun x => (a5 + a7).toNat - x.1) (0, none) ⟨rfl, Nat.zero_le _⟩ ?_
  rintro ⟨j, acc⟩ ⟨hacc, hj⟩ I back
  dsimp only at hacc hj
  dsimp only
  have hlen := rfO_le l m j
  rw [← hacc] at hlen
  have ewj : IntKind.i64.wrap (((j + 1 : Nat) : Int) + 1) = ((j + 1 + 1 : Nat) : Int) := by rw [wi64 (by omega) (by omega)]; omega
  by_cases hjn : j < (a5 + a7).toNat
  · have hle : ((j + 1 : Nat) : Int) ≤ a5 + a7 := by omega
    cases acc with
    | none =>
      dsimp only [rfTss, rfHss, slV, slE]
      by_cases hh : hasL l ((j + 1 : Nat) : Int) = true ∨ hasL m ((j + 1 : Nat) : Int) = true
      · have hs : rfO l m (j + 1) = some (lst (none : Option (List Int)) ++ [((j + 1 : Nat) : Int)]) := by rw [rfO, if_pos hh, ← hacc]
        rcases hB0 : hasL l ((j + 1 : Nat) : Int) with _ | _
        · have hB1 : hasL m ((j + 1 : Nat) : Int) = true := by rcases hh with q | q; (rw [hB0] at q; simp at q); exact q
          have hC0 : hasL l ((j : Int) + 1) = false := hB0
          have hC1 : hasL m ((j : Int) + 1) = true := hB1
          refine sx hX [] 4000 rfl (by (simp [-List.getD_eq_getElem?_getD, -List.length_eq_zero_iff, conjP] <;> (first | omega | ((repeat' (refine And.intro ?_ ?_)) <;> (first | omega | exact decide_eq_false (by omega) | exact decide_eq_true (by omega)))))) ?_
          refine sx hX [.T] 4000 rfl (by (simp [-List.getD_eq_getElem?_getD, -List.length_eq_zero_iff, conjP, hAB, hl] <;> (first | omega | ((repeat' (refine And.intro ?_ ?_)) <;> (first | omega | exact decide_eq_false (by omega) | exact decide_eq_true (by omega)))))) ?_
          refine sx hX [.F] 4000 rfl (by (simp [-List.getD_eq_getElem?_getD, -List.length_eq_zero_iff, conjP, hC0, hm] <;> (first | omega | ((repeat' (refine And.intro ?_ ?_)) <;> (first | omega | exact decide_eq_false (by omega) | exact decide_eq_true (by omega)))))) ?_
          refine sx hX [.T] 4000 rfl (by (simp [-List.getD_eq_getElem?_getD, -List.length_eq_zero_iff, conjP, hC1] <;> (first | omega | ((repeat' (refine And.intro ?_ ?_)) <;> (first | omega | exact decide_eq_false (by omega) | exact decide_eq_true (by omega)))))) ?_
          (refine back (j + 1, some (lst (none : Option (List Int)) ++ [((j + 1 : Nat) : Int)])) ⟨?q, ?b⟩ ?c _ _ _ (sub_of [0, 1, 2, 3, 4, 5, 6, 10] rfl rfl rfl rfl ?tt ?hh (by (repeat' (first | exact rfl | exact trivial | exact sim_refl _ | refine And.intro ?_ ?_))) (by (repeat' (first | exact rfl | exact trivial | exact sim_refl _ | refine And.intro ?_ ?_)))); (case tt => exact ⟨by (repeat' (first | exact rfl | exact trivial | exact sim_refl _ | refine And.intro ?_ ?_)), by (repeat' (first | exact rfl | exact trivial | exact sim_refl _ | refine And.intro ?_ ?_)), by (repeat' (first | exact rfl | exact trivial | exact sim_refl _ | refine And.intro ?_ ?_)), by (repeat' (first | exact rfl | exact trivial | exact sim_refl _ | refine And.intro ?_ ?_)), by (repeat' (first | exact rfl | exact trivial | exact sim_refl _ | (simp; done) | (unfold mulS; simp; done) | (unfold lst; simp; done) | (unfold lst mulS; simp; done) | assumption | refine And.intro ?_ ?_)), ⟨rfl, ewj⟩, trivial⟩); (case hh => (repeat' (first | exact rfl | exact trivial | exact sim_refl _ | (simp; done) | (unfold mulS; simp; done) | (unfold lst; simp; done) | (unfold lst mulS; simp; done) | assumption | refine And.intro ?_ ?_)); done); (case q => exact hs.symm); (case b => (dsimp only; omega)); (case c => (dsimp only; omega)))
        · have hC0 : hasL l ((j : Int) + 1) = true := hB0
          refine sx hX [] 4000 rfl (by (simp [-List.getD_eq_getElem?_getD, -List.length_eq_zero_iff, conjP] <;> (first | omega | ((repeat' (refine And.intro ?_ ?_)) <;> (first | omega | exact decide_eq_false (by omega) | exact decide_eq_true (by omega)))))) ?_
          refine sx hX [.T] 4000 rfl (by (simp [-List.getD_eq_getElem?_getD, -List.length_eq_zero_iff, conjP, hAB, hl] <;> (first | omega | ((repeat' (refine And.intro ?_ ?_)) <;> (first | omega | exact decide_eq_false (by omega) | exact decide_eq_true (by omega)))))) ?_
          refine sx hX [.T] 4000 rfl (by (simp [-List.getD_eq_getElem?_getD, -List.length_eq_zero_iff, conjP, hC0] <;> (first | omega | ((repeat' (refine And.intro ?_ ?_)) <;> (first | omega | exact decide_eq_false (by omega) | exact decide_eq_true (by omega)))))) ?_
          (refine back (j + 1, some (lst (none : Option (List Int)) ++ [((j + 1 : Nat) : Int)])) ⟨?q, ?b⟩ ?c _ _ _ (sub_of [0, 1, 2, 3, 4, 5, 6, 10] rfl rfl rfl rfl ?tt ?hh (by (repeat' (first | exact rfl | exact trivial | exact sim_refl _ | refine And.intro ?_ ?_))) (by (repeat' (first | exact rfl | exact trivial | exact sim_refl _ | refine And.intro ?_ ?_)))); (case tt => exact ⟨by (repeat' (first | exact rfl | exact trivial | exact sim_refl _ | refine And.intro ?_ ?_)), by (repeat' (first | exact rfl | exact trivial | exact sim_refl _ | refine And.intro ?_ ?_)), by (repeat' (first | exact rfl | exact trivial | exact sim_refl _ | refine And.intro ?_ ?_)), by (repeat' (first | exact rfl | exact trivial | exact sim_refl _ | refine And.intro ?_ ?_)), by (repeat' (first | exact rfl | exact trivial | exact sim_refl _ | (simp; done) | (unfold mulS; simp; done) | (unfold lst; simp; done) | (unfold lst mulS; simp; done) | assumption | refine And.intro ?_ ?_)), ⟨rfl, ewj⟩, trivial⟩); (case hh => (repeat' (first | exact rfl | exact trivial | exact sim_refl _ | (simp; done) | (unfold mulS; simp; done) | (unfold lst; simp; done) | (unfold lst mulS; simp; done) | assumption | refine And.intro ?_ ?_)); done); (case q => exact hs.symm); (case b => (dsimp only; omega)); (case c => (dsimp only; omega)))
      · have hs : rfO l m (j + 1) = (none : Option (List Int)) := by rw [rfO, if_neg hh, ← hacc]
        have hB0 : hasL l ((j + 1 : Nat) : Int) = false := by simpa using fun q => hh (.inl q)
        have hB1 : hasL m ((j + 1 : Nat) : Int) = false := by simpa using fun q => hh (.inr q)
        have hC0 : hasL l ((j : Int) + 1) = false := hB0
        have hC1 : hasL m ((j : Int) + 1) = false := hB1
        refine sx hX [] 4000 rfl (by (simp [-List.getD_eq_getElem?_getD, -List.length_eq_zero_iff, conjP] <;> (first | omega | ((repeat' (refine And.intro ?_ ?_)) <;> (first | omega | exact decide_eq_false (by omega) | exact decide_eq_true (by omega)))))) ?_
        refine sx hX [.T] 4000 rfl (by (simp [-List.getD_eq_getElem?_getD, -List.length_eq_zero_iff, conjP, hAB, hl] <;> (first | omega | ((repeat' (refine And.intro ?_ ?_)) <;> (first | omega | exact decide_eq_false (by omega) | exact decide_eq_true (by omega)))))) ?_
        refine sx hX [.F] 4000 rfl (by (simp [-List.getD_eq_getElem?_getD, -List.length_eq_zero_iff, conjP, hC0, hm] <;> (first | omega | ((repeat' (refine And.intro ?_ ?_)) <;> (first | omega | exact decide_eq_false (by omega) | exact decide_eq_true (by omega)))))) ?_
        refine sx hX [.F] 4000 rfl (by (simp [-List.getD_eq_getElem?_getD, -List.length_eq_zero_iff, conjP, addOP, hC1] <;> (first | omega | ((repeat' (refine And.intro ?_ ?_)) <;> (first | omega | exact decide_eq_false (by omega) | exact decide_eq_true (by omega)))))) ?_
        (refine back (j + 1, (none : Option (List Int))) ⟨?q, ?b⟩ ?c _ _ _ (sub_of [0, 1, 2, 3, 4, 5, 6, 7] rfl rfl rfl rfl ?tt ?hh (by (repeat' (first | exact rfl | exact trivial | exact sim_refl _ | refine And.intro ?_ ?_))) (by (repeat' (first | exact rfl | exact trivial | exact sim_refl _ | refine And.intro ?_ ?_)))); (case tt => exact ⟨by (repeat' (first | exact rfl | exact trivial | exact sim_refl _ | refine And.intro ?_ ?_)), by (repeat' (first | exact rfl | exact trivial | exact sim_refl _ | refine And.intro ?_ ?_)), by (repeat' (first | exact rfl | exact trivial | exact sim_refl _ | refine And.intro ?_ ?_)), by (repeat' (first | exact rfl | exact trivial | exact sim_refl _ | refine And.intro ?_ ?_)), by (repeat' (first | exact rfl | exact trivial | exact sim_refl _ | refine And.intro ?_ ?_)), ⟨rfl, ewj⟩, trivial⟩); (case hh => (repeat' (first | exact rfl | exact trivial | exact sim_refl _ | refine And.intro ?_ ?_)); done); (case q => exact hs.symm); (case b => (dsimp only; omega)); (case c => (dsimp only; omega)))
    | some g =>
      have hg : g.length ≤ 30 := by have : (lst (some g)).length = g.length := rfl; omega
      dsimp only [rfTss, rfHss, slV, slE]
      by_cases hh : hasL l ((j + 1 : Nat) : Int) = true ∨ hasL m ((j + 1 : Nat) : Int) = true
      · have hs : rfO l m (j + 1) = some (lst (some g : Option (List Int)) ++ [((j + 1 : Nat) : Int)]) := by rw [rfO, if_pos hh, ← hacc]
        rcases hB0 : hasL l ((j + 1 : Nat) : Int) with _ | _
        · have hB1 : hasL m ((j + 1 : Nat) : Int) = true := by rcases hh with q | q; (rw [hB0] at q; simp at q); exact q
          have hC0 : hasL l ((j : Int) + 1) = false := hB0
          have hC1 : hasL m ((j : Int) + 1) = true := hB1
          refine sx hX [] 4000 rfl (by (simp [-List.getD_eq_getElem?_getD, -List.length_eq_zero_iff, conjP] <;> (first | omega | ((repeat' (refine And.intro ?_ ?_)) <;> (first | omega | exact decide_eq_false (by omega) | exact decide_eq_true (by omega)))))) ?_
          refine sx hX [.T] 4000 rfl (by (simp [-List.getD_eq_getElem?_getD, -List.length_eq_zero_iff, conjP, hAB, hl] <;> (first | omega | ((repeat' (refine And.intro ?_ ?_)) <;> (first | omega | exact decide_eq_false (by omega) | exact decide_eq_true (by omega)))))) ?_
          refine sx hX [.F] 4000 rfl (by (simp [-List.getD_eq_getElem?_getD, -List.length_eq_zero_iff, conjP, hC0, hm] <;> (first | omega | ((repeat' (refine And.intro ?_ ?_)) <;> (first | omega | exact decide_eq_false (by omega) | exact decide_eq_true (by omega)))))) ?_
          refine sx hX [.T] 4000 rfl (by (simp [-List.getD_eq_getElem?_getD, -List.length_eq_zero_iff, conjP, hC1] <;> (first | omega | ((repeat' (refine And.intro ?_ ?_)) <;> (first | omega | exact decide_eq_false (by omega) | exact decide_eq_true (by omega)))))) ?_
          (refine back (j + 1, some (lst (some g : Option (List Int)) ++ [((j + 1 : Nat) : Int)])) ⟨?q, ?b⟩ ?c _ _ _ (sub_of [0, 1, 2, 3, 4, 5, 6, 10] rfl rfl rfl rfl ?tt ?hh (by (repeat' (first | exact rfl | exact trivial | exact sim_refl _ | refine And.intro ?_ ?_))) (by (repeat' (first | exact rfl | exact trivial | exact sim_refl _ | refine And.intro ?_ ?_)))); (case tt => exact ⟨by (repeat' (first | exact rfl | exact trivial | exact sim_refl _ | refine And.intro ?_ ?_)), by (repeat' (first | exact rfl | exact trivial | exact sim_refl _ | refine And.intro ?_ ?_)), by (repeat' (first | exact rfl | exact trivial | exact sim_refl _ | refine And.intro ?_ ?_)), by (repeat' (first | exact rfl | exact trivial | exact sim_refl _ | refine And.intro ?_ ?_)), by (repeat' (first | exact rfl | exact trivial | exact sim_refl _ | (simp; done) | (unfold mulS; simp; done) | (unfold lst; simp; done) | (unfold lst mulS; simp; done) | assumption | refine And.intro ?_ ?_)), ⟨rfl, ewj⟩, trivial⟩); (case hh => (repeat' (first | exact rfl | exact trivial | exact sim_refl _ | (simp; done) | (unfold mulS; simp; done) | (unfold lst; simp; done) | (unfold lst mulS; simp; done) | assumption | refine And.intro ?_ ?_)); done); (case q => exact hs.symm); (case b => (dsimp only; omega)); (case c => (dsimp only; omega)))
        · have hC0 : hasL l ((j : Int) + 1) = true := hB0
          refine sx hX [] 4000 rfl (by (simp [-List.getD_eq_getElem?_getD, -List.length_eq_zero_iff, conjP] <;> (first | omega | ((repeat' (refine And.intro ?_ ?_)) <;> (first | omega | exact decide_eq_false (by omega) | exact decide_eq_true (by omega)))))) ?_
          refine sx hX [.T] 4000 rfl (by (simp [-List.getD_eq_getElem?_getD, -List.length_eq_zero_iff, conjP, hAB, hl] <;> (first | omega | ((repeat' (refine And.intro ?_ ?_)) <;> (first | omega | exact decide_eq_false (by omega) | exact decide_eq_true (by omega)))))) ?_
          refine sx hX [.T] 4000 rfl (by (simp [-List.getD_eq_getElem?_getD, -List.length_eq_zero_iff, conjP, hC0] <;> (first | omega | ((repeat' (refine And.intro ?_ ?_)) <;> (first | omega | exact decide_eq_false (by omega) | exact decide_eq_true (by omega)))))) ?_
          (refine back (j + 1, some (lst (some g : Option (List Int)) ++ [((j + 1 : Nat) : Int)])) ⟨?q, ?b⟩ ?c _ _ _ (sub_of [0, 1, 2, 3, 4, 5, 6, 10] rfl rfl rfl rfl ?tt ?hh (by (repeat' (first | exact rfl | exact trivial | exact sim_refl _ | refine And.intro ?_ ?_))) (by (repeat' (first | exact rfl | exact trivial | exact sim_refl _ | refine And.intro ?_ ?_)))); (case tt => exact ⟨by (repeat' (first | exact rfl | exact trivial | exact sim_refl _ | refine And.intro ?_ ?_)), by (repeat' (first | exact rfl | exact trivial | exact sim_refl _ | refine And.intro ?_ ?_)), by (repeat' (first | exact rfl | exact trivial | exact sim_refl _ | refine And.intro ?_ ?_)), by (repeat' (first | exact rfl | exact trivial | exact sim_refl _ | refine And.intro ?_ ?_)), by (repeat' (first | exact rfl | exact trivial | exact sim_refl _ | (simp; done) | (unfold mulS; simp; done) | (unfold lst; simp; done) | (unfold lst mulS; simp; done) | assumption | refine And.intro ?_ ?_)), ⟨rfl, ewj⟩, trivial⟩); (case hh => (repeat' (first | exact rfl | exact trivial | exact sim_refl _ | (simp; done) | (unfold mulS; simp; done) | (unfold lst; simp; done) | (unfold lst mulS; simp; done) | assumption | refine And.intro ?_ ?_)); done); (case q => exact hs.symm); (case b => (dsimp only; omega)); (case c => (dsimp only; omega)))
      · have hs : rfO l m (j + 1) = (some g : Option (List Int)) := by rw [rfO, if_neg hh, ← hacc]
        have hB0 : hasL l ((j + 1 : Nat) : Int) = false := by simpa using fun q => hh (.inl q)
        have hB1 : hasL m ((j + 1 : Nat) : Int) = false := by simpa using fun q => hh (.inr q)
        have hC0 : hasL l ((j : Int) + 1) = false := hB0
        have hC1 : hasL m ((j : Int) + 1) = false := hB1
        refine sx hX [] 4000 rfl (by (simp [-List.getD_eq_getElem?_getD, -List.length_eq_zero_iff, conjP] <;> (first | omega | ((repeat' (refine And.intro ?_ ?_)) <;> (first | omega | exact decide_eq_false (by omega) | exact decide_eq_true (by omega)))))) ?_
        refine sx hX [.T] 4000 rfl (by (simp [-List.getD_eq_getElem?_getD, -List.length_eq_zero_iff, conjP, hAB, hl] <;> (first | omega | ((repeat' (refine And.intro ?_ ?_)) <;> (first | omega | exact decide_eq_false (by omega) | exact decide_eq_true (by omega)))))) ?_
        refine sx hX [.F] 4000 rfl (by (simp [-List.getD_eq_getElem?_getD, -List.length_eq_zero_iff, conjP, hC0, hm] <;> (first | omega | ((repeat' (refine And.intro ?_ ?_)) <;> (first | omega | exact decide_eq_false (by omega) | exact decide_eq_true (by omega)))))) ?_
        refine sx hX [.F] 4000 rfl (by (simp [-List.getD_eq_getElem?_getD, -List.length_eq_zero_iff, conjP, addOP, hC1] <;> (first | omega | ((repeat' (refine And.intro ?_ ?_)) <;> (first | omega | exact decide_eq_false (by omega) | exact decide_eq_true (by omega)))))) ?_
        (refine back (j + 1, (some g : Option (List Int))) ⟨?q, ?b⟩ ?c _ _ _ (sub_of [0, 1, 2, 3, 4, 5, 6, 7] rfl rfl rfl rfl ?tt ?hh (by (repeat' (first | exact rfl | exact trivial | exact sim_refl _ | refine And.intro ?_ ?_))) (by (repeat' (first | exact rfl | exact trivial | exact sim_refl _ | refine And.intro ?_ ?_)))); (case tt => exact ⟨by (repeat' (first | exact rfl | exact trivial | exact sim_refl _ | refine And.intro ?_ ?_)), by (repeat' (first | exact rfl | exact trivial | exact sim_refl _ | refine And.intro ?_ ?_)), by (repeat' (first | exact rfl | exact trivial | exact sim_refl _ | refine And.intro ?_ ?_)), by (repeat' (first | exact rfl | exact trivial | exact sim_refl _ | refine And.intro ?_ ?_)), by (repeat' (first | exact rfl | exact trivial | exact sim_refl _ | refine And.intro ?_ ?_)), ⟨rfl, ewj⟩, trivial⟩); (case hh => (repeat' (first | exact rfl | exact trivial | exact sim_refl _ | refine And.intro ?_ ?_)); done); (case q => exact hs.symm); (case b => (dsimp only; omega)); (case c => (dsimp only; omega)))
  · have hle : ¬ ((j + 1 : Nat) : Int) ≤ a5 + a7 := by omega
    have hje : j = (a5 + a7).toNat := by omega
    rw [← hje, ← hacc]
    cases acc with
    | none =>
      dsimp only [rfTss, rfHss, slV, slE]
      refine sx hX [] 4000 rfl (by (simp [-List.getD_eq_getElem?_getD, -List.length_eq_zero_iff, conjP] <;> (first | omega | ((repeat' (refine And.intro ?_ ?_)) <;> (first | omega | exact decide_eq_false (by omega) | exact decide_eq_true (by omega)))))) ?_
      refine sx hX [.F] 4000 rfl (by (simp [-List.getD_eq_getElem?_getD, -List.length_eq_zero_iff, conjP, addOP, hAB] <;> (first | omega | ((repeat' (refine And.intro ?_ ?_)) <;> (first | omega | exact decide_eq_false (by omega) | exact decide_eq_true (by omega)))))) ?_
      (exact ss_end hX [0] rfl rfl trivial rfl rfl rfl rfl (by (repeat' (first | exact rfl | exact trivial | exact sim_refl _ | refine And.intro ?_ ?_))) (by (repeat' (first | exact rfl | exact trivial | exact sim_refl _ | refine And.intro ?_ ?_))) (by (repeat' (first | exact rfl | exact trivial | exact sim_refl _ | refine And.intro ?_ ?_))) (by (repeat' (first | exact rfl | exact trivial | exact sim_refl _ | refine And.intro ?_ ?_))))
    | some g =>
      dsimp only [rfTss, rfHss, slV, slE]
      refine sx hX [] 4000 rfl (by (simp [-List.getD_eq_getElem?_getD, -List.length_eq_zero_iff, conjP] <;> (first | omega | ((repeat' (refine And.intro ?_ ?_)) <;> (first | omega | exact decide_eq_false (by omega) | exact decide_eq_true (by omega)))))) ?_
      refine sx hX [.F] 4000 rfl (by (simp [-List.getD_eq_getElem?_getD, -List.length_eq_zero_iff, conjP, addOP, hAB] <;> (first | omega | ((repeat' (refine And.intro ?_ ?_)) <;> (first | omega | exact decide_eq_false (by omega) | exact decide_eq_true (by omega)))))) ?_
      (exact ss_end hX [0, 7] rfl rfl trivial rfl rfl rfl rfl (by (repeat' (first | exact rfl | exact trivial | exact sim_refl _ | refine And.intro ?_ ?_))) (by (repeat' (first | exact rfl | exact trivial | exact sim_refl _ | refine And.intro ?_ ?_))) (by (repeat' (first | exact rfl | exact trivial | exact sim_refl _ | refine And.intro ?_ ?_))) (by (repeat' (first | exact rfl | exact trivial | exact sim_refl _ | refine And.intro ?_ ?_))))
end Go.Proofs.YtfdkaakllceebaaDoor
