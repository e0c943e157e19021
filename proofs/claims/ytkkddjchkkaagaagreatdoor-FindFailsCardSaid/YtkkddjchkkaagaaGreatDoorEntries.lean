/- Entries, places begun at, control words of topics that come and go: contracts, of the program's and of the document's. -/
import Derived.Test.YtkkddjchkkaagaaGreatDoorFindStart
import Derived.Test.YtkkddjchkkaagaaGreatDoorControlTwo
namespace Go.Proofs.YtkkddjchkkaagaaGreatDoor
open Go Go.Hx
set_option maxRecDepth 8000
/-- Is an entry a key's? -/
def isK (w : Int) : Bool := decide (4 ≤ w) && (decide (2 ≤ w % 4) && decide (w ≤ 8589934591))
def enK (key : Int) (lg : Bool) : Int := 4 * key + (if lg then 3 else 2)
def kyW (w : Int) : Int := if isK w then w / 4 else 0
def lgW (w : Int) : Bool := isK w && decide (w % 4 = 3)
theorem isK_t {w : Int} (h1 : 4 ≤ w) (h2 : 2 ≤ w % 4) (h3 : w ≤ 8589934591) : isK w = true := by simp [isK, h1, h2, h3]
theorem isK_f {w : Int} (h : ¬ (4 ≤ w ∧ 2 ≤ w % 4 ∧ w ≤ 8589934591)) : isK w = false := by
  rcases q : isK w with _ | _
  · rfl
  · simp only [isK, Bool.and_eq_true, decide_eq_true_eq] at q
    exact absurd q h
section
variable {x : Int} (h0 : 0 ≤ x) (h1 : x < 18446744073709551616)
include h0 h1
theorem q4 : IntKind.i64.wrap (IntKind.u64.wrap (x.tdiv 4)) = x / 4 := by
  rw [Int.tdiv_eq_ediv_of_nonneg h0, wu64 (by omega) (by omega), wi64 (by omega) (by omega)]
omit h1 in
theorem r4 : x.tmod 4 = x % 4 := Int.tmod_eq_emod_of_nonneg h0
theorem fkey_fn : Gives Tryz.prog 59 [.int .u64 x] [] (Is (.tup [.int .i64 (kyW x), .bool (lgW x), .bool (isK x)]) []) := by
  have e1 := q4 h0 h1
  have e2 := r4 h0
  refine gives_x hXR (fn := Tryz.f59) rfl rfl rfl rfl fun ρ w => ?_
  by_cases h2 : x % 4 < 2
  · have ho : isK x = false := isK_f (by omega)
    refine sx hXR [] 100 rfl (by (simp [-List.getD_eq_getElem?_getD, -List.length_eq_zero_iff, conjP])) ?_
    refine sx hXR [.T] 100 rfl (by (simp [-List.getD_eq_getElem?_getD, -List.length_eq_zero_iff, conjP, addOP, e2, h2])) ?_
    (refine ss_end hXR [] rfl rfl trivial rfl rfl rfl rfl ?hv trivial (by (repeat' (first | exact rfl | exact trivial | exact sim_refl _ | refine And.intro ?_ ?_))) trivial; (case hv => exact ⟨⟨rfl, by simp [kyW, ho]⟩, show lgW x = false by simp [lgW, ho], ho, trivial⟩))
  · by_cases h3 : 4 ≤ x
    · have h5 : 1 ≤ x / 4 := by omega
      by_cases h4 : x ≤ 8589934591
      · have ho : isK x = true := isK_t h3 (by omega) h4
        have h6 : x / 4 ≤ 2147483647 := by omega
        refine sx hXR [] 100 rfl (by (simp [-List.getD_eq_getElem?_getD, -List.length_eq_zero_iff, conjP])) ?_
        refine sx hXR [.F] 100 rfl (by (simp [-List.getD_eq_getElem?_getD, -List.length_eq_zero_iff, conjP, addOP, e2, h2])) ?_
        refine sx hXR [.T] 100 rfl (by (simp [-List.getD_eq_getElem?_getD, -List.length_eq_zero_iff, conjP, addOP, e1, h5])) ?_
        refine sx hXR [.F] 100 rfl (by (simp [-List.getD_eq_getElem?_getD, -List.length_eq_zero_iff, conjP, addOP, e1, h6])) ?_
        (refine ss_end hXR [] rfl rfl trivial rfl rfl rfl rfl ?hv trivial (by (repeat' (first | exact rfl | exact trivial | exact sim_refl _ | refine And.intro ?_ ?_))) trivial; (case hv => exact ⟨⟨rfl, by simp [kyW, ho, e1]⟩, by show _ = lgW x; rw [lgW, ho, e2]; rfl, ho, trivial⟩))
      · have ho : isK x = false := isK_f (by omega)
        have h6 : ¬ x / 4 ≤ 2147483647 := by omega
        refine sx hXR [] 100 rfl (by (simp [-List.getD_eq_getElem?_getD, -List.length_eq_zero_iff, conjP])) ?_
        refine sx hXR [.F] 100 rfl (by (simp [-List.getD_eq_getElem?_getD, -List.length_eq_zero_iff, conjP, addOP, e2, h2])) ?_
        refine sx hXR [.T] 100 rfl (by (simp [-List.getD_eq_getElem?_getD, -List.length_eq_zero_iff, conjP, addOP, e1, h5])) ?_
        refine sx hXR [.T] 100 rfl (by (simp [-List.getD_eq_getElem?_getD, -List.length_eq_zero_iff, conjP, addOP, e1, h6])) ?_
        (refine ss_end hXR [] rfl rfl trivial rfl rfl rfl rfl ?hv trivial (by (repeat' (first | exact rfl | exact trivial | exact sim_refl _ | refine And.intro ?_ ?_))) trivial; (case hv => exact ⟨⟨rfl, by simp [kyW, ho]⟩, show lgW x = false by simp [lgW, ho], ho, trivial⟩))
    · have ho : isK x = false := isK_f (by omega)
      have h5 : ¬ 1 ≤ x / 4 := by omega
      refine sx hXR [] 100 rfl (by (simp [-List.getD_eq_getElem?_getD, -List.length_eq_zero_iff, conjP])) ?_
      refine sx hXR [.F] 100 rfl (by (simp [-List.getD_eq_getElem?_getD, -List.length_eq_zero_iff, conjP, addOP, e2, h2])) ?_
      refine sx hXR [.F] 100 rfl (by (simp [-List.getD_eq_getElem?_getD, -List.length_eq_zero_iff, conjP, addOP, e1, h5])) ?_
      (refine ss_end hXR [] rfl rfl trivial rfl rfl rfl rfl ?hv trivial (by (repeat' (first | exact rfl | exact trivial | exact sim_refl _ | refine And.intro ?_ ?_))) trivial; (case hv => exact ⟨⟨rfl, by simp [kyW, ho]⟩, show lgW x = false by simp [lgW, ho], ho, trivial⟩))
end
theorem fent_fn {k : Int} {b : Bool} (h1 : 1 ≤ k) (h2 : k ≤ 2147483647) : Gives Tryz.prog 78 [.int .i64 k, .bool b] [] (Is (.int .u64 (enK k b)) []) := by
  have e2 : IntKind.u64.wrap (IntKind.i64.wrap (IntKind.i64.wrap (4 * k) + 2)) = 4 * k + 2 := by rw [wi64 (n := 4 * k) (by omega) (by omega), wi64 (by omega) (by omega), wu64 (by omega) (by omega)]
  have e3 : IntKind.u64.wrap (IntKind.i64.wrap (IntKind.i64.wrap (4 * k) + 3)) = 4 * k + 3 := by rw [wi64 (n := 4 * k) (by omega) (by omega), wi64 (by omega) (by omega), wu64 (by omega) (by omega)]
  refine gives_x hXR (fn := Tryz.f78) rfl rfl rfl rfl fun ρ w => ?_
  rcases b with _ | _
  · refine sx hXR [] 100 rfl (by (simp [-List.getD_eq_getElem?_getD, -List.length_eq_zero_iff, conjP])) ?_
    refine sx hXR [.T] 100 rfl (by (simp [-List.getD_eq_getElem?_getD, -List.length_eq_zero_iff, conjP, addOP, h1])) ?_
    refine sx hXR [.F] 100 rfl (by (simp [-List.getD_eq_getElem?_getD, -List.length_eq_zero_iff, conjP, addOP, h2])) ?_
    refine sx hXR [.F] 100 rfl (by (simp [-List.getD_eq_getElem?_getD, -List.length_eq_zero_iff, conjP, addOP])) ?_
    (refine ss_end hXR [] rfl rfl trivial rfl rfl rfl rfl ?hv trivial (by (repeat' (first | exact rfl | exact trivial | exact sim_refl _ | refine And.intro ?_ ?_))) trivial; (case hv => exact ⟨rfl, e2⟩))
  · refine sx hXR [] 100 rfl (by (simp [-List.getD_eq_getElem?_getD, -List.length_eq_zero_iff, conjP])) ?_
    refine sx hXR [.T] 100 rfl (by (simp [-List.getD_eq_getElem?_getD, -List.length_eq_zero_iff, conjP, addOP, h1])) ?_
    refine sx hXR [.F] 100 rfl (by (simp [-List.getD_eq_getElem?_getD, -List.length_eq_zero_iff, conjP, addOP, h2])) ?_
    refine sx hXR [.T] 100 rfl (by (simp [-List.getD_eq_getElem?_getD, -List.length_eq_zero_iff, conjP, addOP])) ?_
    (refine ss_end hXR [] rfl rfl trivial rfl rfl rfl rfl ?hv trivial (by (repeat' (first | exact rfl | exact trivial | exact sim_refl _ | refine And.intro ?_ ?_))) trivial; (case hv => exact ⟨rfl, e3⟩))
def fkeyS : List SV → Option (List Prop × SV)
  | [.int .u64 x] => some ([0 ≤ x, x < 18446744073709551616], .tup [.int .i64 (kyW x), .bool (lgW x), .bool (isK x)])
  | _ => none
theorem fkeyS_ok : PureOk 59 fkeyS := by
  intro args ob V hs ho
  unfold fkeyS at hs
  split at hs
  · simp only [Option.some.injEq, Prod.mk.injEq] at hs
    obtain ⟨rfl, rfl⟩ := hs
    have o1 := ho _ (List.mem_cons_self ..)
    have o2 := ho _ (List.mem_cons_of_mem _ (List.mem_cons_self ..))
    exact ⟨rfl, rfl, fkey_fn o1 o2⟩
  · simp at hs
def fentS : List SV → Option (List Prop × SV)
  | [.int .i64 k, .bool b] => some ([1 ≤ k, k ≤ 2147483647], .int .u64 (enK k b))
  | _ => none
theorem fentS_ok : PureOk 78 fentS := by
  intro args ob V hs ho
  unfold fentS at hs
  split at hs
  · simp only [Option.some.injEq, Prod.mk.injEq] at hs
    obtain ⟨rfl, rfl⟩ := hs
    have o1 := ho _ (List.mem_cons_self ..)
    have o2 := ho _ (List.mem_cons_of_mem _ (List.mem_cons_self ..))
    exact ⟨rfl, rfl, fent_fn o1 o2⟩
  · simp at hs
end Go.Proofs.YtkkddjchkkaagaaGreatDoor
