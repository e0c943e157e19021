/- E2: a text of this seat. -/
import Derived.Test.YtkkddjchkkaagaaRight
namespace Go.Proofs.Ytkkddjchkkaagaa
open Go Go.Hx
set_option maxRecDepth 8000


def mix1 (x c : Int) (s : Int) : Int := IntKind.u64.wrap (ibits .xor .u64 x (x.fdiv (2 ^ (min s.toNat IntKind.u64.bits))) * c)
def mixV (x : Int) : Int :=
  let y := mix1 (mix1 x 13787848793156543929 30) 10723151780598845931 27
  ibits .xor .u64 y (y.fdiv (2 ^ (min (31 : Int).toNat IntKind.u64.bits)))

theorem mix16 (x : Int) : Gives Try.prog 16 [.int .u64 x] [] (Is (.int .u64 (mixV x)) []) := by
  refine gives_x hX0 (fn := Try.f16) rfl rfl rfl rfl fun ρ w => ?_
  refine sx hX0 [] 100 rfl (by simp [conjP]) ?_
  exact ss_end hX0 [] rfl rfl trivial rfl rfl rfl rfl (by repeat' (first | exact rfl | exact trivial | exact sim_refl _ | refine And.intro ?_ ?_)) trivial (by repeat' (first | exact rfl | exact trivial | exact sim_refl _ | refine And.intro ?_ ?_)) trivial
theorem mix18 (x : Int) : Gives Try.prog 18 [.int .u64 x] [] (Is (.int .u64 (mixV x)) []) := by
  refine gives_x hX0 (fn := Try.f18) rfl rfl rfl rfl fun ρ w => ?_
  refine sx hX0 [] 100 rfl (by simp [conjP]) ?_
  exact ss_end hX0 [] rfl rfl trivial rfl rfl rfl rfl (by repeat' (first | exact rfl | exact trivial | exact sim_refl _ | refine And.intro ?_ ?_)) trivial (by repeat' (first | exact rfl | exact trivial | exact sim_refl _ | refine And.intro ?_ ?_)) trivial

def mayB (k : Int) : Bool := decide (1 ≤ k ∧ k ≤ 2147483647)
def entV (k d : Int) : Int := if mayB k then 4 * k + d else 0

theorem may_t {k : Int} (h1 : 1 ≤ k) (h2 : k ≤ 2147483647) : mayB k = true := decide_eq_true ⟨h1, h2⟩
theorem may_f {k : Int} (h : ¬ (1 ≤ k ∧ k ≤ 2147483647)) : mayB k = false := decide_eq_false h

theorem may10 (k : Int) : Gives Try.prog 10 [.int .i64 k] [] (Is (.bool (mayB k)) []) := by
  refine gives_x hX0 (fn := Try.f10) rfl rfl rfl rfl fun ρ w => ?_
  by_cases h1 : 1 ≤ k
  · refine sx hX0 [.T] 100 rfl (by simp [conjP]; omega) ?_
    exact ss_end hX0 [] rfl rfl trivial rfl rfl rfl rfl (show decide (k ≤ 2147483647) = mayB k from decide_eq_decide.2 (by omega)) trivial (by repeat' (first | exact rfl | exact trivial | exact sim_refl _ | refine And.intro ?_ ?_)) trivial
  · refine sx hX0 [.F] 100 rfl (by simp [conjP]; omega) ?_
    exact ss_end hX0 [] rfl rfl trivial rfl rfl rfl rfl (show mayB k = false from may_f (by omega)) trivial (by repeat' (first | exact rfl | exact trivial | exact sim_refl _ | refine And.intro ?_ ?_)) trivial
theorem may14 (k : Int) : Gives Try.prog 14 [.int .i64 k] [] (Is (.bool (mayB k)) []) := by
  refine gives_x hX0 (fn := Try.f14) rfl rfl rfl rfl fun ρ w => ?_
  by_cases h1 : 1 ≤ k
  · refine sx hX0 [.T] 100 rfl (by simp [conjP]; omega) ?_
    exact ss_end hX0 [] rfl rfl trivial rfl rfl rfl rfl (show decide (k ≤ 2147483647) = mayB k from decide_eq_decide.2 (by omega)) trivial (by repeat' (first | exact rfl | exact trivial | exact sim_refl _ | refine And.intro ?_ ?_)) trivial
  · refine sx hX0 [.F] 100 rfl (by simp [conjP]; omega) ?_
    exact ss_end hX0 [] rfl rfl trivial rfl rfl rfl rfl (show mayB k = false from may_f (by omega)) trivial (by repeat' (first | exact rfl | exact trivial | exact sim_refl _ | refine And.intro ?_ ?_)) trivial

def mayS : List SV → Option (List Prop × SV)
  | [.int .i64 k] => some ([], .bool (mayB k))
  | _ => none
def mixS : List SV → Option (List Prop × SV)
  | [.int .u64 x] => some ([], .int .u64 (mixV x))
  | _ => none
def rightS : List SV → Option (List Prop × SV)
  | [.agg [.int .i64 a0, .int .i64 a1, .int .i64 a2, .int .i64 a3, .int .i64 a4, .int .i64 a5, .int .i64 a6, .int .i64 a7, .int .i64 a8]] => some ([], .bool (rightB a0 a1 a2 a3 a4 a5 a6 a7 a8))
  | _ => none

def ct1 : Nat → Option Hx.Spec
  | 10 => some (pureS mayS)
  | 14 => some (pureS mayS)
  | 16 => some (pureS mixS)
  | 18 => some (pureS mixS)
  | 17 => some (pureS rightS)
  | 19 => some (pureS rightS)
  | _ => none

theorem mayS_ok {f : Nat} (h : ∀ k, Gives Try.prog f [.int .i64 k] [] (Is (.bool (mayB k)) [])) : ∀ args ob V, mayS args = some (ob, V) → AllP ob → SV.okhs (fun _ => false) args = true ∧ V.okh (fun _ => false) = true ∧ Gives Try.prog f args [] (Is V []) := by
  intro args ob V hs _
  unfold mayS at hs
  split at hs
  · simp at hs; obtain ⟨rfl, rfl⟩ := hs; exact ⟨rfl, rfl, h _⟩
  · simp at hs
theorem mixS_ok {f : Nat} (h : ∀ k, Gives Try.prog f [.int .u64 k] [] (Is (.int .u64 (mixV k)) [])) : ∀ args ob V, mixS args = some (ob, V) → AllP ob → SV.okhs (fun _ => false) args = true ∧ V.okh (fun _ => false) = true ∧ Gives Try.prog f args [] (Is V []) := by
  intro args ob V hs _
  unfold mixS at hs
  split at hs
  · simp at hs; obtain ⟨rfl, rfl⟩ := hs; exact ⟨rfl, rfl, h _⟩
  · simp at hs
theorem rightS_ok {f : Nat} (h : ∀ a0 a1 a2 a3 a4 a5 a6 a7 a8, Gives Try.prog f [.agg [.int .i64 a0, .int .i64 a1, .int .i64 a2, .int .i64 a3, .int .i64 a4, .int .i64 a5, .int .i64 a6, .int .i64 a7, .int .i64 a8]] [] (Is (.bool (rightB a0 a1 a2 a3 a4 a5 a6 a7 a8)) [])) :
    ∀ args ob V, rightS args = some (ob, V) → AllP ob → SV.okhs (fun _ => false) args = true ∧ V.okh (fun _ => false) = true ∧ Gives Try.prog f args [] (Is V []) := by
  intro args ob V hs _
  unfold rightS at hs
  split at hs
  · simp at hs; obtain ⟨rfl, rfl⟩ := hs; exact ⟨rfl, rfl, h _ _ _ _ _ _ _ _ _⟩
  · simp at hs

theorem ct1_ok : ∀ f s args H ob V L, ct1 f = some s → s args H = some (ob, V, L) → AllP ob → Gives Try.prog f args H (Is V L) := by
  intro f s args H ob V L h hs ho
  unfold ct1 at h
  split at h
  · simp at h; subst h; exact pureS_ok ⟨_, hTE⟩ (mayS_ok may10) hs ho
  · simp at h; subst h; exact pureS_ok ⟨_, hTE⟩ (mayS_ok may14) hs ho
  · simp at h; subst h; exact pureS_ok ⟨_, hTE⟩ (mixS_ok mix16) hs ho
  · simp at h; subst h; exact pureS_ok ⟨_, hTE⟩ (mixS_ok mix18) hs ho
  · simp at h; subst h; exact pureS_ok ⟨_, hTE⟩ (rightS_ok right17) hs ho
  · simp at h; subst h; exact pureS_ok ⟨_, hTE⟩ (rightS_ok right19) hs ho
  · simp at h

noncomputable def X1 : Tabs := tabs tr ft xt (fun _ => none) ct1 20
theorem hX1 : TOk Try.prog X1 := ⟨hTE, hFT, ct1_ok, hXT, fun t ks h => by simp [X1, tabs] at h, mixed⟩

/-- An entry, of a key. -/
theorem ent8 (k : Int) (b : Bool) : Gives Try.prog 8 [.int .i64 k, cond b .tt .ff] [] (Is (.int .u64 (entV k (cond b 3 2))) []) := by
  refine gives_x hX1 (fn := Try.f8) rfl rfl rfl rfl fun ρ w => ?_
  by_cases h : 1 ≤ k ∧ k ≤ 2147483647
  · have hm : mayB k = true := decide_eq_true h
    cases b
    · refine sx hX1 [.F] 100 rfl (by simp [conjP, hm]) ?_
      refine ss_end hX1 [] rfl rfl trivial rfl rfl rfl rfl ⟨rfl, ?_⟩ trivial (by repeat' (first | exact rfl | exact trivial | exact sim_refl _ | refine And.intro ?_ ?_)) trivial
      show IntKind.u64.wrap (IntKind.i64.wrap (IntKind.i64.wrap (4 * k) + 2)) = entV k 2
      simp only [entV, hm, if_true]
      rw [wi64 (n := 4 * k) (by omega) (by omega), wi64 (by omega) (by omega), wu64 (by omega) (by omega)]
    · refine sx hX1 [.F] 100 rfl (by simp [conjP, hm]) ?_
      refine ss_end hX1 [] rfl rfl trivial rfl rfl rfl rfl ⟨rfl, ?_⟩ trivial (by repeat' (first | exact rfl | exact trivial | exact sim_refl _ | refine And.intro ?_ ?_)) trivial
      show IntKind.u64.wrap (IntKind.i64.wrap (IntKind.i64.wrap (4 * k) + 3)) = entV k 3
      simp only [entV, hm, if_true]
      rw [wi64 (n := 4 * k) (by omega) (by omega), wi64 (by omega) (by omega), wu64 (by omega) (by omega)]
  · have hm : mayB k = false := decide_eq_false h
    cases b
    · refine sx hX1 [.T] 100 rfl (by simp [conjP, hm]) ?_
      exact ss_end hX1 [] rfl rfl trivial rfl rfl rfl rfl ⟨rfl, by simp [entV, hm]⟩ trivial (by repeat' (first | exact rfl | exact trivial | exact sim_refl _ | refine And.intro ?_ ?_)) trivial
    · refine sx hX1 [.T] 100 rfl (by simp [conjP, hm]) ?_
      exact ss_end hX1 [] rfl rfl trivial rfl rfl rfl rfl ⟨rfl, by simp [entV, hm]⟩ trivial (by repeat' (first | exact rfl | exact trivial | exact sim_refl _ | refine And.intro ?_ ?_)) trivial
theorem ent9 (k : Int) (b : Bool) : Gives Try.prog 9 [.int .i64 k, cond b .tt .ff] [] (Is (.int .u64 (entV k (cond b 3 2))) []) := by
  refine gives_x hX1 (fn := Try.f9) rfl rfl rfl rfl fun ρ w => ?_
  by_cases h : 1 ≤ k ∧ k ≤ 2147483647
  · have hm : mayB k = true := decide_eq_true h
    have e2 : IntKind.u64.wrap (IntKind.u64.wrap (IntKind.u64.wrap k * 4) + 2) = 4 * k + 2 := by
      rw [wu64 (n := k) (by omega) (by omega), wu64 (n := k * 4) (by omega) (by omega), wu64 (by omega) (by omega)]; omega
    cases b
    · refine sx hX1 [.F] 100 rfl (by simp [conjP, hm]) ?_
      refine ss_end hX1 [] rfl rfl trivial rfl rfl rfl rfl ⟨rfl, ?_⟩ trivial (by repeat' (first | exact rfl | exact trivial | exact sim_refl _ | refine And.intro ?_ ?_)) trivial
      show IntKind.u64.wrap (IntKind.u64.wrap (IntKind.u64.wrap k * 4) + 2) = entV k 2
      simp only [entV, hm, if_true]
      exact e2
    · refine sx hX1 [.F] 100 rfl (by simp [conjP, hm]) ?_
      refine ss_end hX1 [] rfl rfl trivial rfl rfl rfl rfl ⟨rfl, ?_⟩ trivial (by repeat' (first | exact rfl | exact trivial | exact sim_refl _ | refine And.intro ?_ ?_)) trivial
      show IntKind.u64.wrap (IntKind.u64.wrap (IntKind.u64.wrap (IntKind.u64.wrap k * 4) + 2) + 1) = entV k 3
      simp only [entV, hm, if_true]
      rw [e2, wu64 (by omega) (by omega)]; omega
  · have hm : mayB k = false := decide_eq_false h
    cases b
    · refine sx hX1 [.T] 100 rfl (by simp [conjP, hm]) ?_
      exact ss_end hX1 [] rfl rfl trivial rfl rfl rfl rfl ⟨rfl, by simp [entV, hm]⟩ trivial (by repeat' (first | exact rfl | exact trivial | exact sim_refl _ | refine And.intro ?_ ?_)) trivial
    · refine sx hX1 [.T] 100 rfl (by simp [conjP, hm]) ?_
      exact ss_end hX1 [] rfl rfl trivial rfl rfl rfl rfl ⟨rfl, by simp [entV, hm]⟩ trivial (by repeat' (first | exact rfl | exact trivial | exact sim_refl _ | refine And.intro ?_ ?_)) trivial

/-- What a word says as an entry. -/
def keyO (x : Int) : Bool := decide (4 ≤ x ∧ x ≤ 8589934591 ∧ 2 ≤ x % 4)
def keyK (x : Int) : Int := if keyO x then x / 4 else 0
def keyL (x : Int) : Bool := keyO x && decide (x % 4 = 3)

section
variable {x : Int} (h0 : 0 ≤ x) (h1 : x < 18446744073709551616)
include h0 h1
theorem q4 : IntKind.i64.wrap (IntKind.u64.wrap (x.tdiv 4)) = x / 4 := by
  rw [Int.tdiv_eq_ediv_of_nonneg h0, wu64 (by omega) (by omega), wi64 (by omega) (by omega)]
omit h1 in
theorem r4 : x.tmod 4 = x % 4 := Int.tmod_eq_emod_of_nonneg h0

theorem key6 : Gives Try.prog 6 [.int .u64 x] [] (Is (.tup [.int .i64 (keyK x), .bool (keyL x), .bool (keyO x)]) []) := by
  have e1 := q4 h0 h1
  have e2 := r4 h0
  refine gives_x hX1 (fn := Try.f6) rfl rfl rfl rfl fun ρ w => ?_
  by_cases h2 : x % 4 < 2
  · have ho : keyO x = false := decide_eq_false (by omega)
    refine sx hX1 [.T, .T] 100 rfl (by simp [conjP, e2]; omega) ?_
    exact ss_end hX1 [] rfl rfl trivial rfl rfl rfl rfl ⟨⟨rfl, by simp [keyK, ho]⟩, show keyL x = false by simp [keyL, ho], ho, trivial⟩ trivial (by repeat' (first | exact rfl | exact trivial | exact sim_refl _ | refine And.intro ?_ ?_)) trivial
  · by_cases h3 : 4 ≤ x ∧ x ≤ 8589934591
    · have ho : keyO x = true := decide_eq_true (by omega)
      have hm : mayB (x / 4) = true := decide_eq_true (by omega)
      refine sx hX1 [.F, .F] 100 rfl (by simp [conjP, e1, e2, hm]; omega) ?_
      exact ss_end hX1 [] rfl rfl trivial rfl rfl rfl rfl ⟨⟨rfl, by simp [keyK, ho, e1]⟩, show decide (x.tmod 4 = 3) = keyL x by simp [keyL, ho, e2], ho, trivial⟩ trivial (by repeat' (first | exact rfl | exact trivial | exact sim_refl _ | refine And.intro ?_ ?_)) trivial
    · have ho : keyO x = false := decide_eq_false (by omega)
      have hm : mayB (x / 4) = false := decide_eq_false (by omega)
      refine sx hX1 [.F, .T] 100 rfl (by simp [conjP, e1, e2, hm]; omega) ?_
      exact ss_end hX1 [] rfl rfl trivial rfl rfl rfl rfl ⟨⟨rfl, by simp [keyK, ho]⟩, show keyL x = false by simp [keyL, ho], ho, trivial⟩ trivial (by repeat' (first | exact rfl | exact trivial | exact sim_refl _ | refine And.intro ?_ ?_)) trivial

theorem key7 : Gives Try.prog 7 [.int .u64 x] [] (Is (.agg [.int .i64 (keyK x), .bool (keyL x), .bool (keyO x)]) []) := by
  have e1 := q4 h0 h1
  have e2 := r4 h0
  refine gives_x hX1 (fn := Try.f7) rfl rfl rfl rfl fun ρ w => ?_
  by_cases h3 : 8589934591 < x
  · have ho : keyO x = false := decide_eq_false (by omega)
    refine sx hX1 [.T] 100 rfl (by simp [conjP, e2]; omega) ?_
    exact ss_end hX1 [] rfl rfl trivial rfl rfl rfl rfl ⟨⟨rfl, by simp [keyK, ho]⟩, show keyL x = false by simp [keyL, ho], ho, trivial⟩ trivial (by repeat' (first | exact rfl | exact trivial | exact sim_refl _ | refine And.intro ?_ ?_)) trivial
  · by_cases h2 : x % 4 < 2
    · have ho : keyO x = false := decide_eq_false (by omega)
      refine sx hX1 [.F, .T] 100 rfl (by simp [conjP, e2]; omega) ?_
      exact ss_end hX1 [] rfl rfl trivial rfl rfl rfl rfl ⟨⟨rfl, by simp [keyK, ho]⟩, show keyL x = false by simp [keyL, ho], ho, trivial⟩ trivial (by repeat' (first | exact rfl | exact trivial | exact sim_refl _ | refine And.intro ?_ ?_)) trivial
    · by_cases h4 : x < 4
      · have ho : keyO x = false := decide_eq_false (by omega)
        refine sx hX1 [.F, .F, .T] 100 rfl (by simp [conjP, e2]; omega) ?_
        exact ss_end hX1 [] rfl rfl trivial rfl rfl rfl rfl ⟨⟨rfl, by simp [keyK, ho]⟩, show keyL x = false by simp [keyL, ho], ho, trivial⟩ trivial (by repeat' (first | exact rfl | exact trivial | exact sim_refl _ | refine And.intro ?_ ?_)) trivial
      · have ho : keyO x = true := decide_eq_true (by omega)
        refine sx hX1 [.F, .F, .F] 100 rfl (by simp [conjP, e2]; omega) ?_
        exact ss_end hX1 [] rfl rfl trivial rfl rfl rfl rfl ⟨⟨rfl, by simp [keyK, ho, e1]⟩, show decide (x.tmod 4 = 3) = keyL x by simp [keyL, ho, e2], ho, trivial⟩ trivial (by repeat' (first | exact rfl | exact trivial | exact sim_refl _ | refine And.intro ?_ ?_)) trivial
end
end Go.Proofs.Ytkkddjchkkaagaa
