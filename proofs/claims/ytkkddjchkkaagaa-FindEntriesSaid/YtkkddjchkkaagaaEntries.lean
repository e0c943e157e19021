/- E3: a text of this seat. -/
import Derived.Test.YtkkddjchkkaagaaKeys
namespace Go.Proofs.Ytkkddjchkkaagaa
open Go Go.Hx
set_option maxRecDepth 8000


def entTS : List SV → Option (List Prop × SV)
  | [.int .i64 k, .tt] => some ([], .int .u64 (entV k 3))
  | [.int .i64 k, .ff] => some ([], .int .u64 (entV k 2))
  | _ => none
theorem entTS_ok {f : Nat} (h : ∀ k b, Gives Try.prog f [.int .i64 k, cond b .tt .ff] [] (Is (.int .u64 (entV k (cond b 3 2))) [])) : ∀ args ob V, entTS args = some (ob, V) → AllP ob → SV.okhs (fun _ => false) args = true ∧ V.okh (fun _ => false) = true ∧ Gives Try.prog f args [] (Is V []) := by
  intro args ob V hs _
  unfold entTS at hs
  split at hs
  · simp at hs; obtain ⟨rfl, rfl⟩ := hs; exact ⟨rfl, rfl, h _ true⟩
  · simp at hs; obtain ⟨rfl, rfl⟩ := hs; exact ⟨rfl, rfl, h _ false⟩
  · simp at hs
def key6S : List SV → Option (List Prop × SV)
  | [.int .u64 x] => some ([0 ≤ x, x < 18446744073709551616], .tup [.int .i64 (keyK x), .bool (keyL x), .bool (keyO x)])
  | _ => none
def key7S : List SV → Option (List Prop × SV)
  | [.int .u64 x] => some ([0 ≤ x, x < 18446744073709551616], .agg [.int .i64 (keyK x), .bool (keyL x), .bool (keyO x)])
  | _ => none
theorem key6S_ok : ∀ args ob V, key6S args = some (ob, V) → AllP ob → SV.okhs (fun _ => false) args = true ∧ V.okh (fun _ => false) = true ∧ Gives Try.prog 6 args [] (Is V []) := by
  intro args ob V hs ho
  unfold key6S at hs
  split at hs
  · simp at hs; obtain ⟨rfl, rfl⟩ := hs; exact ⟨rfl, rfl, key6 (ho _ (by simp)) (ho _ (by simp))⟩
  · simp at hs
theorem key7S_ok : ∀ args ob V, key7S args = some (ob, V) → AllP ob → SV.okhs (fun _ => false) args = true ∧ V.okh (fun _ => false) = true ∧ Gives Try.prog 7 args [] (Is V []) := by
  intro args ob V hs ho
  unfold key7S at hs
  split at hs
  · simp at hs; obtain ⟨rfl, rfl⟩ := hs; exact ⟨rfl, rfl, key7 (ho _ (by simp)) (ho _ (by simp))⟩
  · simp at hs

/-- Where a key's places begin. -/
def startV (a0 a1 a2 a3 a4 a5 a6 a7 a8 k : Int) : Int :=
  if rightB a0 a1 a2 a3 a4 a5 a6 a7 a8 && mayB k then IntKind.i64.wrap ((mixV (IntKind.u64.wrap k)).tmod (IntKind.u64.wrap a0)) else -1

abbrev C9 (a0 a1 a2 a3 a4 a5 a6 a7 a8 : Int) : SV := .agg [.int .i64 a0, .int .i64 a1, .int .i64 a2, .int .i64 a3, .int .i64 a4, .int .i64 a5, .int .i64 a6, .int .i64 a7, .int .i64 a8]

theorem start11 (a0 a1 a2 a3 a4 a5 a6 a7 a8 k : Int) : Gives Try.prog 11 [C9 a0 a1 a2 a3 a4 a5 a6 a7 a8, .int .i64 k] [] (Is (.int .i64 (startV a0 a1 a2 a3 a4 a5 a6 a7 a8 k)) []) := by
  refine gives_x hX1 (fn := Try.f11) rfl rfl rfl rfl fun ρ w => ?_
  by_cases hr : rightB a0 a1 a2 a3 a4 a5 a6 a7 a8 = true
  · have hr' := of_decide_eq_true hr
    by_cases hm : mayB k = true
    · refine sx hX1 [.F, .F] 200 rfl (by simp [conjP, hr, hm]; rw [wu64 (by omega) (by omega)]; omega) ?_
      exact ss_end hX1 [] rfl rfl trivial rfl rfl rfl rfl ⟨rfl, by simp [startV, hr, hm]⟩ trivial (by repeat' (first | exact rfl | exact trivial | exact sim_refl _ | refine And.intro ?_ ?_)) trivial
    · refine sx hX1 [.F, .T] 200 rfl (by simp [conjP, hr, hm]) ?_
      exact ss_end hX1 [] rfl rfl trivial rfl rfl rfl rfl ⟨rfl, by simp [startV, hm]⟩ trivial (by repeat' (first | exact rfl | exact trivial | exact sim_refl _ | refine And.intro ?_ ?_)) trivial
  · refine sx hX1 [.T, .C] 200 rfl (by simp [conjP, hr]) ?_
    exact ss_end hX1 [] rfl rfl trivial rfl rfl rfl rfl ⟨rfl, by simp [startV, hr]⟩ trivial (by repeat' (first | exact rfl | exact trivial | exact sim_refl _ | refine And.intro ?_ ?_)) trivial

theorem start12 (a0 a1 a2 a3 a4 a5 a6 a7 a8 k : Int) : Gives Try.prog 12 [C9 a0 a1 a2 a3 a4 a5 a6 a7 a8, .int .i64 k] [] (Is (.int .i64 (startV a0 a1 a2 a3 a4 a5 a6 a7 a8 k)) []) := by
  refine gives_x hX1 (fn := Try.f12) rfl rfl rfl rfl fun ρ w => ?_
  by_cases hr : rightB a0 a1 a2 a3 a4 a5 a6 a7 a8 = true
  · have hr' := of_decide_eq_true hr
    by_cases hm : mayB k = true
    · refine sx hX1 [.F, .F] 200 rfl (by simp [conjP, hr, hm]; rw [wu64 (by omega) (by omega)]; omega) ?_
      exact ss_end hX1 [] rfl rfl trivial rfl rfl rfl rfl ⟨rfl, by simp [startV, hr, hm]⟩ trivial (by repeat' (first | exact rfl | exact trivial | exact sim_refl _ | refine And.intro ?_ ?_)) trivial
    · refine sx hX1 [.F, .T] 200 rfl (by simp [conjP, hr, hm]) ?_
      exact ss_end hX1 [] rfl rfl trivial rfl rfl rfl rfl ⟨rfl, by simp [startV, hm]⟩ trivial (by repeat' (first | exact rfl | exact trivial | exact sim_refl _ | refine And.intro ?_ ?_)) trivial
  · refine sx hX1 [.T] 200 rfl (by simp [conjP, hr]) ?_
    exact ss_end hX1 [] rfl rfl trivial rfl rfl rfl rfl ⟨rfl, by simp [startV, hr]⟩ trivial (by repeat' (first | exact rfl | exact trivial | exact sim_refl _ | refine And.intro ?_ ?_)) trivial

def startS : List SV → Option (List Prop × SV)
  | [.agg [.int .i64 a0, .int .i64 a1, .int .i64 a2, .int .i64 a3, .int .i64 a4, .int .i64 a5, .int .i64 a6, .int .i64 a7, .int .i64 a8], .int .i64 k] => some ([], .int .i64 (startV a0 a1 a2 a3 a4 a5 a6 a7 a8 k))
  | _ => none
theorem startS_ok {f : Nat} (h : ∀ a0 a1 a2 a3 a4 a5 a6 a7 a8 k, Gives Try.prog f [C9 a0 a1 a2 a3 a4 a5 a6 a7 a8, .int .i64 k] [] (Is (.int .i64 (startV a0 a1 a2 a3 a4 a5 a6 a7 a8 k)) [])) :
    ∀ args ob V, startS args = some (ob, V) → AllP ob → SV.okhs (fun _ => false) args = true ∧ V.okh (fun _ => false) = true ∧ Gives Try.prog f args [] (Is V []) := by
  intro args ob V hs _
  unfold startS at hs
  split at hs
  · simp at hs; obtain ⟨rfl, rfl⟩ := hs; exact ⟨rfl, rfl, h _ _ _ _ _ _ _ _ _ _⟩
  · simp at hs

def ct2 : Nat → Option Hx.Spec
  | 6 => some (pureS key6S)
  | 7 => some (pureS key7S)
  | 8 => some (pureS entTS)
  | 9 => some (pureS entTS)
  | 10 => some (pureS mayS)
  | 11 => some (pureS startS)
  | 12 => some (pureS startS)
  | _ => none
theorem ct2_ok : ∀ f s args H ob V L, ct2 f = some s → s args H = some (ob, V, L) → AllP ob → Gives Try.prog f args H (Is V L) := by
  intro f s args H ob V L h hs ho
  unfold ct2 at h
  split at h
  · simp at h; subst h; exact pureS_ok ⟨_, hTE⟩ key6S_ok hs ho
  · simp at h; subst h; exact pureS_ok ⟨_, hTE⟩ key7S_ok hs ho
  · simp at h; subst h; exact pureS_ok ⟨_, hTE⟩ (entTS_ok ent8) hs ho
  · simp at h; subst h; exact pureS_ok ⟨_, hTE⟩ (entTS_ok ent9) hs ho
  · simp at h; subst h; exact pureS_ok ⟨_, hTE⟩ (mayS_ok may10) hs ho
  · simp at h; subst h; exact pureS_ok ⟨_, hTE⟩ (startS_ok start11) hs ho
  · simp at h; subst h; exact pureS_ok ⟨_, hTE⟩ (startS_ok start12) hs ho
  · simp at h
noncomputable def X2 : Tabs := tabs tr ft xt (fun _ => none) ct2 20
theorem hX2 : TOk Try.prog X2 := ⟨hTE, hFT, ct2_ok, hXT, fun t ks h => by simp [X2, tabs] at h, mixed⟩

theorem key_ent {k : Int} (h : mayB k = true) : keyK (entV k 3) = k ∧ keyL (entV k 3) = true ∧ keyO (entV k 3) = true := by
  have h' := of_decide_eq_true h
  have e : entV k 3 = 4 * k + 3 := by simp [entV, h]
  have ho : keyO (entV k 3) = true := decide_eq_true (by rw [e]; omega)
  refine ⟨?_, ?_, ho⟩
  · rw [keyK, if_pos ho, e]; omega
  · rw [keyL, ho, e, Bool.true_and]; exact decide_eq_true (by omega)
theorem key_ent_f {k : Int} (h : mayB k = false) : keyO (entV k 3) = false := by
  simp [entV, h, keyO]
theorem ent_le {k : Int} : 0 ≤ entV k 3 ∧ entV k 3 < 18446744073709551616 := by
  unfold entV
  split
  · rename_i h
    have := of_decide_eq_true h
    omega
  · omega
theorem and34 {x : Int} (h0 : 0 ≤ x) : 0 ≤ ibits .and .u64 x 17179869183 ∧ ibits .and .u64 x 17179869183 < 18446744073709551616 := by
  simp only [ibits, IntKind.wrap_u64]
  omega

set_option maxHeartbeats 4000000 in
theorem entries_fn (key w : Int) (q0 q1 : Int) (h0 : 0 ≤ w) (h1 : w < 18446744073709551616) : Gives Try.prog 3 [.int .i64 key, .int .u64 w, .agg [.int .i64 q0, .int .i64 q1]] [] (Is .tt []) := by
  obtain ⟨v0, v1⟩ := and34 h0
  obtain ⟨e0, e1⟩ := ent_le (k := key)
  refine gives_x hX2 (fn := Try.f3) rfl rfl rfl rfl fun ρ0 w0 => ?_
  have z : startV 0 0 0 0 0 0 0 0 0 1 = -1 := by simp [startV, rightB]
  have a1 : entV 5 3 = 23 := by decide
  have a2 : keyK 23 = 5 := by decide
  have a3 : keyL 23 = true := by decide
  have a4 : keyO 23 = true := by decide
  cases hm : mayB key
  · have b1 := key_ent_f hm
    refine sx hX2 [.T, .T, .T, .T, .T, .T, .T, .K, .K, .T, .K, .K, .T, .T, .K, .K, .T, .K, .K, .T, .F, .F, .C, .F, .T, .T, .T] 1000 rfl (by simp [conjP, getH, z, a1, a2, a3, a4, b1, hm]; omega) ?_
    exact ss_end hX2 [] rfl rfl trivial rfl rfl rfl rfl (by repeat' (first | exact rfl | exact trivial | exact sim_refl _ | refine And.intro ?_ ?_)) trivial (by repeat' (first | exact rfl | exact trivial | exact sim_refl _ | refine And.intro ?_ ?_)) trivial
  · obtain ⟨b1, b2, b3⟩ := key_ent hm
    refine sx hX2 [.T, .T, .T, .T, .T, .T, .T, .K, .K, .T, .K, .K, .T, .T, .K, .K, .T, .K, .K, .T, .T, .T, .C, .T, .T, .T, .T, .T, .T] 1000 rfl (by simp [conjP, getH, z, a1, a2, a3, a4, b1, b2, b3, hm]; omega) ?_
    exact ss_end hX2 [] rfl rfl trivial rfl rfl rfl rfl (by repeat' (first | exact rfl | exact trivial | exact sim_refl _ | refine And.intro ?_ ?_)) trivial (by repeat' (first | exact rfl | exact trivial | exact sim_refl _ | refine And.intro ?_ ?_)) trivial
end Go.Proofs.Ytkkddjchkkaagaa
