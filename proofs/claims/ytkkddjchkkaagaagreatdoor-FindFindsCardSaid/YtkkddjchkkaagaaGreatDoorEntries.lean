/- Entries, places begun at, control words of topics that come and go: contracts, of the program's and of the document's. -/
import Derived.Test.YtkkddjchkkaagaaGreatDoorFindStart
import Derived.Test.YtkkddjchkkaagaaGreatDoorControlTwo
namespace Go.Proofs.YtkkddjchkkaagaaGreatDoor
open Go Go.Hx
set_option maxRecDepth 8000
/-- Is an entry a key's? -/
def isK (w : Int) : Bool := decide (4 ≤ w) && (decide (2 ≤ w % 4) && decide (w ≤ 8589934591))
def enK (key : Int) (lg : Bool) : Int := 4 * key + (if lg then 3 else 2)
def kyW (w : Int) : Int := if isK w then w / 4 else 0
def lgW (w : Int) : Bool := isK w && decide (w % 4 = 3)
theorem isK_t {w : Int} (h1 : 4 ≤ w) (h2 : 2 ≤ w % 4) (h3 : w ≤ 8589934591) : isK w = true := by simp [isK, h1, h2, h3]
theorem isK_f {w : Int} (h : ¬ (4 ≤ w ∧ 2 ≤ w % 4 ∧ w ≤ 8589934591)) : isK w = false := by
  rcases q : isK w with _ | _
  · rfl
  · simp only [isK, Bool.and_eq_true, decide_eq_true_eq] at q
    exact absurd q h
section
variable {x : Int} (h0 : 0 ≤ x) (h1 : x < 18446744073709551616)
include h0 h1
theorem q4 : IntKind.i64.wrap (IntKind.u64.wrap (x.tdiv 4)) = x / 4 := by
  rw [Int.tdiv_eq_ediv_of_nonneg h0, wu64 (by omega) (by omega), wi64 (by omega) (by omega)]
omit h1 in
theorem r4 : x.tmod 4 = x % 4 := Int.tmod_eq_emod_of_nonneg h0
theorem fkey_fn : Gives Tryz.prog 59 [.int .u64 x] [] (Is (.tup [.int .i64 (kyW x), .bool (lgW x), .bool (isK x)]) []) := by
  have e1 := q4 h0 h1
  have e2 := r4 h0
  refine gives_x hXR (fn := Tryz.f59) rfl rfl rfl rfl fun ρ w => ?_
  by_cases h2 : x % 4 < 2
  · have ho : isK x = false := isK_f (by omega)
    refine sx hXR [] 100 rfl (by (simp [-List.getD_eq_getElem?_getD, -List.length_eq_zero_iff, conjP])) ?_
    refine sx hXR [.T] 100 rfl (by (simp [-List.getD_eq_getElem?_getD, -List.length_eq_zero_iff, conjP, addOP, e2, h2])) ?_
    (refine ss_end hXR [] rfl rfl trivial rfl rfl rfl rfl ?hv trivial (by (repeat' (first | exact rfl | exact trivial | exact sim_refl _ | refine And.intro ?_ ?_))) trivial; (case hv => exact ⟨⟨rfl, by simp [kyW, ho]⟩, show lgW x = false by simp [lgW, ho], ho, trivial⟩))
  · by_cases h3 : 4 ≤ x
    · have h5 : 1 ≤ x / 4 := by omega
      by_cases h4 : x ≤ 8589934591
      · have ho : isK x = true := isK_t h3 (by omega) h4
        have h6 : x / 4 ≤ 2147483647 := by omega
        refine sx hXR [] 100 rfl (by (simp [-List.getD_eq_getElem?_getD, -List.length_eq_zero_iff, conjP])) ?_
        refine sx hXR [.F] 100 rfl (by (simp [-List.getD_eq_getElem?_getD, -List.length_eq_zero_iff, conjP, addOP, e2, h2])) ?_
        refine sx hXR [.T] 100 rfl (by (simp [-List.getD_eq_getElem?_getD, -List.length_eq_zero_iff, conjP, addOP, e1, h5])) ?_
        refine sx hXR [.F] 100 rfl (by (simp [-List.getD_eq_getElem?_getD, -List.length_eq_zero_iff, conjP, addOP, e1, h6])) ?_
        (refine ss_end hXR [] rfl rfl trivial rfl rfl rfl rfl ?hv trivial (by (repeat' (first | exact rfl | exact trivial | exact sim_refl _ | refine And.intro ?_ ?_))) trivial; (case hv => exact ⟨⟨rfl, by simp [kyW, ho, e1]⟩, by show _ = lgW x; rw [lgW, ho, e2]; rfl, ho, trivial⟩))
      · have ho : isK x = false := isK_f (by omega)
        have h6 : ¬ x / 4 ≤ 2147483647 := by omega
        refine sx hXR [] 100 rfl (by (simp [-List.getD_eq_getElem?_getD, -List.length_eq_zero_iff, conjP])) ?_
        refine sx hXR [.F] 100 rfl (by (simp [-List.getD_eq_getElem?_getD, -List.length_eq_zero_iff, conjP, addOP, e2, h2])) ?_
        refine sx hXR [.T] 100 rfl (by (simp [-List.getD_eq_getElem?_getD, -List.length_eq_zero_iff, conjP, addOP, e1, h5])) ?_
        refine sx hXR [.T] 100 rfl (by (simp [-List.getD_eq_getElem?_getD, -List.length_eq_zero_iff, conjP, addOP, e1, h6])) ?_
        (refine ss_end hXR [] rfl rfl trivial rfl rfl rfl rfl ?hv trivial (by (repeat' (first | exact rfl | exact trivial | exact sim_refl _ | refine And.intro ?_ ?_))) trivial; (case hv => exact ⟨⟨rfl, by simp [kyW, ho]⟩, show lgW x = false by simp [lgW, ho], ho, trivial⟩))
    · have ho : isK x = false := isK_f (by omega)
      have h5 : ¬ 1 ≤ x / 4 := by omega
      refine sx hXR [] 100 rfl (by (simp [-List.getD_eq_getElem?_getD, -List.length_eq_zero_iff, conjP])) ?_
      refine sx hXR [.F] 100 rfl (by (simp [-List.getD_eq_getElem?_getD, -List.length_eq_zero_iff, conjP, addOP, e2, h2])) ?_
      refine sx hXR [.F] 100 rfl (by (simp [-List.getD_eq_getElem?_getD, -List.length_eq_zero_iff, conjP, addOP, e1, h5])) ?_
      (refine ss_end hXR [] rfl rfl trivial rfl rfl rfl rfl ?hv trivial (by (repeat' (first | exact rfl | exact trivial | exact sim_refl _ | refine And.intro ?_ ?_))) trivial; (case hv => exact ⟨⟨rfl, by simp [kyW, ho]⟩, show lgW x = false by simp [lgW, ho], ho, trivial⟩))
theorem rkey_fn : Gives Tryz.prog 38 [.int .u64 x] [] (Is (.agg [.int .i64 (kyW x), .bool (lgW x), .bool (isK x)]) []) := by
  have e1 := q4 h0 h1
  have e2 := r4 h0
  refine gives_x hXR (fn := Tryz.f38) rfl rfl rfl rfl fun ρ w => ?_
  by_cases h3 : 8589934591 < x
  · have ho : isK x = false := isK_f (by omega)
    refine sx hXR [] 100 rfl (by (simp [-List.getD_eq_getElem?_getD, -List.length_eq_zero_iff, conjP])) ?_
    refine sx hXR [.T] 100 rfl (by (simp [-List.getD_eq_getElem?_getD, -List.length_eq_zero_iff, conjP, addOP, h3])) ?_
    (refine ss_end hXR [] rfl rfl trivial rfl rfl rfl rfl ?hv trivial (by (repeat' (first | exact rfl | exact trivial | exact sim_refl _ | refine And.intro ?_ ?_))) trivial; (case hv => exact ⟨⟨rfl, by simp [kyW, ho]⟩, show lgW x = false by simp [lgW, ho], ho, trivial⟩))
  · by_cases h2 : x % 4 < 2
    · have ho : isK x = false := isK_f (by omega)
      refine sx hXR [] 100 rfl (by (simp [-List.getD_eq_getElem?_getD, -List.length_eq_zero_iff, conjP])) ?_
      refine sx hXR [.F] 100 rfl (by (simp [-List.getD_eq_getElem?_getD, -List.length_eq_zero_iff, conjP, h3])) ?_
      refine sx hXR [.T] 100 rfl (by (simp [-List.getD_eq_getElem?_getD, -List.length_eq_zero_iff, conjP, addOP, e2, h2])) ?_
      (refine ss_end hXR [] rfl rfl trivial rfl rfl rfl rfl ?hv trivial (by (repeat' (first | exact rfl | exact trivial | exact sim_refl _ | refine And.intro ?_ ?_))) trivial; (case hv => exact ⟨⟨rfl, by simp [kyW, ho]⟩, show lgW x = false by simp [lgW, ho], ho, trivial⟩))
    · by_cases h4 : x < 4
      · have ho : isK x = false := isK_f (by omega)
        refine sx hXR [] 100 rfl (by (simp [-List.getD_eq_getElem?_getD, -List.length_eq_zero_iff, conjP])) ?_
        refine sx hXR [.F] 100 rfl (by (simp [-List.getD_eq_getElem?_getD, -List.length_eq_zero_iff, conjP, h3])) ?_
        refine sx hXR [.F] 100 rfl (by (simp [-List.getD_eq_getElem?_getD, -List.length_eq_zero_iff, conjP, addOP, e2, h2])) ?_
        refine sx hXR [.T] 100 rfl (by (simp [-List.getD_eq_getElem?_getD, -List.length_eq_zero_iff, conjP, addOP, h4])) ?_
        (refine ss_end hXR [] rfl rfl trivial rfl rfl rfl rfl ?hv trivial (by (repeat' (first | exact rfl | exact trivial | exact sim_refl _ | refine And.intro ?_ ?_))) trivial; (case hv => exact ⟨⟨rfl, by simp [kyW, ho]⟩, show lgW x = false by simp [lgW, ho], ho, trivial⟩))
      · have ho : isK x = true := isK_t (by omega) (by omega) (by omega)
        refine sx hXR [] 100 rfl (by (simp [-List.getD_eq_getElem?_getD, -List.length_eq_zero_iff, conjP])) ?_
        refine sx hXR [.F] 100 rfl (by (simp [-List.getD_eq_getElem?_getD, -List.length_eq_zero_iff, conjP, h3])) ?_
        refine sx hXR [.F] 100 rfl (by (simp [-List.getD_eq_getElem?_getD, -List.length_eq_zero_iff, conjP, addOP, e2, h2])) ?_
        refine sx hXR [.F] 100 rfl (by (simp [-List.getD_eq_getElem?_getD, -List.length_eq_zero_iff, conjP, h4])) ?_
        (refine ss_end hXR [] rfl rfl trivial rfl rfl rfl rfl ?hv trivial (by (repeat' (first | exact rfl | exact trivial | exact sim_refl _ | refine And.intro ?_ ?_))) trivial; (case hv => exact ⟨⟨rfl, by simp [kyW, ho, e1]⟩, by show _ = lgW x; rw [lgW, ho, e2]; rfl, ho, trivial⟩))
end
theorem fent_fn {k : Int} {b : Bool} (h1 : 1 ≤ k) (h2 : k ≤ 2147483647) : Gives Tryz.prog 78 [.int .i64 k, .bool b] [] (Is (.int .u64 (enK k b)) []) := by
  have e2 : IntKind.u64.wrap (IntKind.i64.wrap (IntKind.i64.wrap (4 * k) + 2)) = 4 * k + 2 := by rw [wi64 (n := 4 * k) (by omega) (by omega), wi64 (by omega) (by omega), wu64 (by omega) (by omega)]
  have e3 : IntKind.u64.wrap (IntKind.i64.wrap (IntKind.i64.wrap (4 * k) + 3)) = 4 * k + 3 := by rw [wi64 (n := 4 * k) (by omega) (by omega), wi64 (by omega) (by omega), wu64 (by omega) (by omega)]
  refine gives_x hXR (fn := Tryz.f78) rfl rfl rfl rfl fun ρ w => ?_
  rcases b with _ | _
  · refine sx hXR [] 100 rfl (by (simp [-List.getD_eq_getElem?_getD, -List.length_eq_zero_iff, conjP])) ?_
    refine sx hXR [.T] 100 rfl (by (simp [-List.getD_eq_getElem?_getD, -List.length_eq_zero_iff, conjP, addOP, h1])) ?_
    refine sx hXR [.F] 100 rfl (by (simp [-List.getD_eq_getElem?_getD, -List.length_eq_zero_iff, conjP, addOP, h2])) ?_
    refine sx hXR [.F] 100 rfl (by (simp [-List.getD_eq_getElem?_getD, -List.length_eq_zero_iff, conjP, addOP])) ?_
    (refine ss_end hXR [] rfl rfl trivial rfl rfl rfl rfl ?hv trivial (by (repeat' (first | exact rfl | exact trivial | exact sim_refl _ | refine And.intro ?_ ?_))) trivial; (case hv => exact ⟨rfl, e2⟩))
  · refine sx hXR [] 100 rfl (by (simp [-List.getD_eq_getElem?_getD, -List.length_eq_zero_iff, conjP])) ?_
    refine sx hXR [.T] 100 rfl (by (simp [-List.getD_eq_getElem?_getD, -List.length_eq_zero_iff, conjP, addOP, h1])) ?_
    refine sx hXR [.F] 100 rfl (by (simp [-List.getD_eq_getElem?_getD, -List.length_eq_zero_iff, conjP, addOP, h2])) ?_
    refine sx hXR [.T] 100 rfl (by (simp [-List.getD_eq_getElem?_getD, -List.length_eq_zero_iff, conjP, addOP])) ?_
    (refine ss_end hXR [] rfl rfl trivial rfl rfl rfl rfl ?hv trivial (by (repeat' (first | exact rfl | exact trivial | exact sim_refl _ | refine And.intro ?_ ?_))) trivial; (case hv => exact ⟨rfl, e3⟩))
theorem rent_fn {k : Int} {b : Bool} (h1 : 1 ≤ k) (h2 : k ≤ 2147483647) : Gives Tryz.prog 102 [.int .i64 k, .bool b] [] (Is (.int .u64 (enK k b)) []) := by
  have e2 : IntKind.u64.wrap (IntKind.u64.wrap (IntKind.u64.wrap k * 4) + 2) = 4 * k + 2 := by
    rw [wu64 (n := k) (by omega) (by omega), wu64 (n := k * 4) (by omega) (by omega), wu64 (by omega) (by omega)]; omega
  have e3 : IntKind.u64.wrap (IntKind.u64.wrap (IntKind.u64.wrap (IntKind.u64.wrap k * 4) + 2) + 1) = 4 * k + 3 := by rw [e2, wu64 (by omega) (by omega)]; omega
  refine gives_x hXR (fn := Tryz.f102) rfl rfl rfl rfl fun ρ w => ?_
  rcases b with _ | _
  · refine sx hXR [] 100 rfl (by (simp [-List.getD_eq_getElem?_getD, -List.length_eq_zero_iff, conjP])) ?_
    refine sx hXR [.T] 100 rfl (by (simp [-List.getD_eq_getElem?_getD, -List.length_eq_zero_iff, conjP, addOP, h1])) ?_
    refine sx hXR [.F] 100 rfl (by (simp [-List.getD_eq_getElem?_getD, -List.length_eq_zero_iff, conjP, addOP, h2])) ?_
    refine sx hXR [.F] 100 rfl (by (simp [-List.getD_eq_getElem?_getD, -List.length_eq_zero_iff, conjP, addOP])) ?_
    (refine ss_end hXR [] rfl rfl trivial rfl rfl rfl rfl ?hv trivial (by (repeat' (first | exact rfl | exact trivial | exact sim_refl _ | refine And.intro ?_ ?_))) trivial; (case hv => exact ⟨rfl, e2⟩))
  · refine sx hXR [] 100 rfl (by (simp [-List.getD_eq_getElem?_getD, -List.length_eq_zero_iff, conjP])) ?_
    refine sx hXR [.T] 100 rfl (by (simp [-List.getD_eq_getElem?_getD, -List.length_eq_zero_iff, conjP, addOP, h1])) ?_
    refine sx hXR [.F] 100 rfl (by (simp [-List.getD_eq_getElem?_getD, -List.length_eq_zero_iff, conjP, addOP, h2])) ?_
    refine sx hXR [.T] 100 rfl (by (simp [-List.getD_eq_getElem?_getD, -List.length_eq_zero_iff, conjP, addOP])) ?_
    (refine ss_end hXR [] rfl rfl trivial rfl rfl rfl rfl ?hv trivial (by (repeat' (first | exact rfl | exact trivial | exact sim_refl _ | refine And.intro ?_ ?_))) trivial; (case hv => exact ⟨rfl, e3⟩))
theorem rmix_fn (x : Int) : Gives Tryz.prog 153 [.int .u64 x] [] (Is (.int .u64 (mixV x)) []) := by
  refine gives_x hXR (fn := Tryz.f153) rfl rfl rfl rfl fun ρ w => ?_
  refine sx hXR [] 100 rfl (by (simp [-List.getD_eq_getElem?_getD, -List.length_eq_zero_iff, conjP])) ?_
  (refine ss_end hXR [] rfl rfl trivial rfl rfl rfl rfl (by (repeat' (first | exact rfl | exact trivial | exact sim_refl _ | refine And.intro ?_ ?_))) trivial (by (repeat' (first | exact rfl | exact trivial | exact sim_refl _ | refine And.intro ?_ ?_))) trivial)
def rmixS : List SV → Option (List Prop × SV)
  | [.int .u64 x] => some ([], .int .u64 (mixV x))
  | _ => none
theorem rmixS_ok : PureOk 153 rmixS := by
  intro args ob V hs ho
  unfold rmixS at hs
  split at hs
  · simp only [Option.some.injEq, Prod.mk.injEq] at hs
    obtain ⟨rfl, rfl⟩ := hs
    exact ⟨rfl, rfl, rmix_fn _⟩
  · simp at hs
def fkeyS : List SV → Option (List Prop × SV)
  | [.int .u64 x] => some ([0 ≤ x, x < 18446744073709551616], .tup [.int .i64 (kyW x), .bool (lgW x), .bool (isK x)])
  | _ => none
theorem fkeyS_ok : PureOk 59 fkeyS := by
  intro args ob V hs ho
  unfold fkeyS at hs
  split at hs
  · simp only [Option.some.injEq, Prod.mk.injEq] at hs
    obtain ⟨rfl, rfl⟩ := hs
    have o1 := ho _ (List.mem_cons_self ..)
    have o2 := ho _ (List.mem_cons_of_mem _ (List.mem_cons_self ..))
    exact ⟨rfl, rfl, fkey_fn o1 o2⟩
  · simp at hs
def rkeyS : List SV → Option (List Prop × SV)
  | [.int .u64 x] => some ([0 ≤ x, x < 18446744073709551616], .agg [.int .i64 (kyW x), .bool (lgW x), .bool (isK x)])
  | _ => none
theorem rkeyS_ok : PureOk 38 rkeyS := by
  intro args ob V hs ho
  unfold rkeyS at hs
  split at hs
  · simp only [Option.some.injEq, Prod.mk.injEq] at hs
    obtain ⟨rfl, rfl⟩ := hs
    have o1 := ho _ (List.mem_cons_self ..)
    have o2 := ho _ (List.mem_cons_of_mem _ (List.mem_cons_self ..))
    exact ⟨rfl, rfl, rkey_fn o1 o2⟩
  · simp at hs
def fentS : List SV → Option (List Prop × SV)
  | [.int .i64 k, .bool b] => some ([1 ≤ k, k ≤ 2147483647], .int .u64 (enK k b))
  | _ => none
theorem fentS_ok : PureOk 78 fentS := by
  intro args ob V hs ho
  unfold fentS at hs
  split at hs
  · simp only [Option.some.injEq, Prod.mk.injEq] at hs
    obtain ⟨rfl, rfl⟩ := hs
    have o1 := ho _ (List.mem_cons_self ..)
    have o2 := ho _ (List.mem_cons_of_mem _ (List.mem_cons_self ..))
    exact ⟨rfl, rfl, fent_fn o1 o2⟩
  · simp at hs
def rentS : List SV → Option (List Prop × SV)
  | [.int .i64 k, .bool b] => some ([1 ≤ k, k ≤ 2147483647], .int .u64 (enK k b))
  | _ => none
theorem rentS_ok : PureOk 102 rentS := by
  intro args ob V hs ho
  unfold rentS at hs
  split at hs
  · simp only [Option.some.injEq, Prod.mk.injEq] at hs
    obtain ⟨rfl, rfl⟩ := hs
    have o1 := ho _ (List.mem_cons_self ..)
    have o2 := ho _ (List.mem_cons_of_mem _ (List.mem_cons_self ..))
    exact ⟨rfl, rfl, rent_fn o1 o2⟩
  · simp at hs
def ctTk : Nat → Option Hx.Spec
  | 112 => some (pureS rightS)
  | 153 => some (pureS rmixS)
  | 174 => some (pureS unpkS)
  | 209 => some (pureS cpkS)
  | _ => none
theorem ctTk_ok : ∀ f s args H ob V L, ctTk f = some s → s args H = some (ob, V, L) → AllP ob → Gives Tryz.prog f args H (Is V L) := by
  intro f s args H ob V L h hs ho
  unfold ctTk at h
  split at h
  · simp at h; subst h; exact pureS_ok ⟨_, hTE⟩ (rightS_ok right112) hs ho
  · simp at h; subst h; exact pureS_ok ⟨_, hTE⟩ (rmixS_ok) hs ho
  · simp at h; subst h; exact pureS_ok ⟨_, hTE⟩ (unpkS_ok) hs ho
  · simp at h; subst h; exact pureS_ok ⟨_, hTE⟩ (cpkS_ok) hs ho
  · simp at h
noncomputable def XTk : Tabs := tabs tr ft xt (fun _ => none) ctTk 20
theorem hXTk : TOk Tryz.prog (XTk) := ⟨hTE, hFT, ctTk_ok, hXT, fun t ks h => by simp [XTk, tabs] at h, mixed⟩
theorem rstart_fn {a0 a1 a2 a3 a4 a5 a6 a7 a8 k : Int} (hr : rightB a0 a1 a2 a3 a4 a5 a6 a7 a8 = true) (m1 : 1 ≤ k) (m2 : k ≤ 2147483647) : Gives Tryz.prog 110 [C9 a0 a1 a2 a3 a4 a5 a6 a7 a8, .int .i64 k] [] (Is (.int .i64 (startV a0 a1 a2 a3 a4 a5 a6 a7 a8 k)) []) := by
  refine gives_x hXTk (fn := Tryz.f110) rfl rfl rfl rfl fun ρ w => ?_
  have hrA := right_iff.1 hr
  have hw : IntKind.u64.wrap a0 = a0 := wu64 (by omega) (by omega)
  have h0 : ¬ a0 = 0 := by omega
  refine sx hXTk [] 400 rfl (by (simp [-List.getD_eq_getElem?_getD, -List.length_eq_zero_iff, conjP])) ?_
  refine sx hXTk [.T] 400 rfl (by (simp [-List.getD_eq_getElem?_getD, -List.length_eq_zero_iff, conjP, addOP, m1])) ?_
  refine sx hXTk [.F] 400 rfl (by (simp [-List.getD_eq_getElem?_getD, -List.length_eq_zero_iff, conjP, addOP, hr])) ?_
  refine sx hXTk [.F] 400 rfl (by (simp [-List.getD_eq_getElem?_getD, -List.length_eq_zero_iff, conjP, getH, HE.so, m2, hw, h0])) ?_
  (refine ss_end hXTk [] rfl rfl trivial rfl rfl rfl rfl ?hv (by (repeat' (first | exact rfl | exact trivial | exact sim_refl _ | refine And.intro ?_ ?_))) (by (repeat' (first | exact rfl | exact trivial | exact sim_refl _ | refine And.intro ?_ ?_))) (by (repeat' (first | exact rfl | exact trivial | exact sim_refl _ | refine And.intro ?_ ?_))); (case hv => exact ⟨rfl, by rw [startV, if_pos ⟨hr, m1, m2⟩]⟩))
def rstartS : List SV → Option (List Prop × SV)
  | [.agg [.int .i64 a0, .int .i64 a1, .int .i64 a2, .int .i64 a3, .int .i64 a4, .int .i64 a5, .int .i64 a6, .int .i64 a7, .int .i64 a8], .int .i64 k] => some ([rightB a0 a1 a2 a3 a4 a5 a6 a7 a8 = true, 1 ≤ k, k ≤ 2147483647], .int .i64 (startV a0 a1 a2 a3 a4 a5 a6 a7 a8 k))
  | _ => none
theorem rstartS_ok : PureOk 110 rstartS := by
  intro args ob V hs ho
  unfold rstartS at hs
  split at hs
  · simp only [Option.some.injEq, Prod.mk.injEq] at hs
    obtain ⟨rfl, rfl⟩ := hs
    have o1 := ho _ (List.mem_cons_self ..)
    have o2 := ho _ (List.mem_cons_of_mem _ (List.mem_cons_self ..))
    have o3 := ho _ (List.mem_cons_of_mem _ (List.mem_cons_of_mem _ (List.mem_cons_self ..)))
    exact ⟨rfl, rfl, rstart_fn o1 o2 o3⟩
  · simp at hs
end Go.Proofs.YtkkddjchkkaagaaGreatDoor
