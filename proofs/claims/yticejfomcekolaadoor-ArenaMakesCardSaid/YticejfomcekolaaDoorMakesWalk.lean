/- ArenaMakes: an arena is made just if its length may be; all its words are 0. -/
import Derived.Test.YticejfomcekolaaDoorArenaSteps
import Derived.Test.YticejfomcekolaaDoorNilWalk
namespace Go.Proofs.YticejfomcekolaaDoor
open Go Go.Hx
set_option maxRecDepth 8000
def ctMk : Nat → Option Hx.Spec
  | 16 => some (topS)
  | 10 => some (pureS aw03S)
  | 12 => some (arWordsS)
  | 14 => some (arStepsS)
  | 15 => some (arLastS)
  | _ => none
theorem ctMk_ok : ∀ f s args H ob V L, ctMk f = some s → s args H = some (ob, V, L) → AllP ob → Gives Tryd.prog f args H (Is V L) := by
  intro f s args H ob V L h hs ho
  unfold ctMk at h
  split at h
  · simp at h; subst h; exact topS_ok hs ho
  · simp at h; subst h; exact pureS_ok ⟨_, hTE⟩ (aw03S_ok) hs ho
  · simp at h; subst h; exact arWordsS_ok hs ho
  · simp at h; subst h; exact arStepsS_ok hs ho
  · simp at h; subst h; exact arLastS_ok hs ho
  · simp at h
noncomputable def XMk : Tabs := tabs tr ft xt (fun _ => none) ctMk 0
theorem hXMk : TOk Tryd.prog XMk := ⟨hTE, hFT, ctMk_ok, hXT, fun t ks h => by simp [XMk, tabs] at h, mixed⟩
theorem and4095 (x : Int) : 0 ≤ ibits .and .i64 x 4095 ∧ ibits .and .i64 x 4095 ≤ 4095 := andB (m := 12) x 4095 (by decide) (by decide)
def mkT0 (K : Nat) : List (Nat × SV) := [(5, .tt), (6, .int .i64 (K : Int)), (7, .ptr 1 0), (8, .sbuf 3 1 0 K)]
def mkTi (K i : Nat) : List (Nat × SV) := [(5, .tt), (6, .int .i64 (K : Int)), (7, .ptr 1 0), (8, .sbuf 3 1 0 K), (9, .int .i64 (i : Int))]
def mkH0 (K : Nat) : List HE := [pinE RTV, .obj (.cells [.slice 2 0 K K, .int .i64 0, .int .i64 0, .int .i64 0, .int .u64 0, .ff, .niliface] 84), WO (List.replicate K 0), .obj (.buf .u64 (List.replicate K 0) 1 27)]
theorem rep_get (K i : Nat) : (List.replicate K (0 : Int)).getD i 0 = 0 := by
  rw [List.getD_eq_getElem?_getD, List.getElem?_replicate]; split <;> rfl
set_option maxHeartbeats 8000000 in
theorem arenaMakes_fn (n m : Int) : Gives Tryd.prog 3 [.int .i64 n, .int .i64 m] [pinE RTV] (Is .tt [pinE RTV]) := by
  have hm := and4095 m
  obtain ⟨K, hK⟩ : ∃ K : Nat, IntKind.i64.wrap (1 + ibits .and .i64 m 4095) = (K : Int) := ⟨(1 + ibits .and .i64 m 4095).toNat, by rw [wi64 (by omega) (by omega)]; omega⟩
  have hK1 : 1 ≤ K ∧ K ≤ 4096 := by rw [wi64 (by omega) (by omega)] at hK; omega
  have k1 := hK1.1
  have k2 := hK1.2
  have hl : (List.replicate K (0 : Int)).length = K := List.length_replicate
  have ht : List.take K (List.replicate K (0 : Int)) = List.replicate K 0 := by simp
  refine gives_x hXMk (fn := Tryd.f3) rfl rfl rfl rfl fun ρ w => ?_
  refine sxb hXMk [.r 3] [] 400 rfl (by first | exact trivial | simp [conjP]) ?_
  simp only [hK]
  refine' ss_via hXMk (k' := contF Tryd.f3 7 []) (fun _ : Unit => mkT0 K) (fun _ => mkH0 K) (fun _ => True) (fun J => ?first) (fun _ _ => ?rest)
  case first =>
    refine sxb hXMk [.r 7] [] 4000 rfl (by (simp [-List.getD_eq_getElem?_getD, -List.length_eq_zero_iff, conjP] <;> (first | omega | ((repeat' (refine And.intro ?_ ?_)) <;> (first | omega | exact decide_eq_false (by omega) | exact decide_eq_true (by omega)))))) ?_
    refine sxb hXMk [.r 7] [.F] 4000 rfl (by (simp [-List.getD_eq_getElem?_getD, -List.length_eq_zero_iff, conjP, addOP] <;> (first | omega | ((repeat' (refine And.intro ?_ ?_)) <;> (first | omega | exact decide_eq_false (by omega) | exact decide_eq_true (by omega)))))) ?_
    refine sxb hXMk [.r 7] [.F] 4000 rfl (by (simp [-List.getD_eq_getElem?_getD, -List.length_eq_zero_iff, conjP] <;> (first | omega | ((repeat' (refine And.intro ?_ ?_)) <;> (first | omega | exact decide_eq_false (by omega) | exact decide_eq_true (by omega)))))) ?_
    refine ss_pb hXMk [.r 7] [] 4000 rfl (fun hb0 => ?_) (fun hb0 => ?_)
    · try simp [-List.getD_eq_getElem?_getD, -List.length_eq_zero_iff] at hb0
      refine sxb hXMk [.r 7] [.T] 4000 rfl (by (simp [-List.getD_eq_getElem?_getD, -List.length_eq_zero_iff, conjP, addOP, hb0] <;> (first | omega | ((repeat' (refine And.intro ?_ ?_)) <;> (first | omega | exact decide_eq_false (by omega) | exact decide_eq_true (by omega)))))) ?_
      refine sxb hXMk [.r 7] [.F] 4000 rfl (by (simp [-List.getD_eq_getElem?_getD, -List.length_eq_zero_iff, conjP, addOP, hb0] <;> (first | omega | ((repeat' (refine And.intro ?_ ?_)) <;> (first | omega | exact decide_eq_false (by omega) | exact decide_eq_true (by omega)))))) ?_
      refine sxb hXMk [.r 7] [.F] 4000 rfl (by (simp [-List.getD_eq_getElem?_getD, -List.length_eq_zero_iff, conjP, hl] <;> (first | omega | ((repeat' (refine And.intro ?_ ?_)) <;> (first | omega | exact decide_eq_false (by omega) | exact decide_eq_true (by omega)))))) ?_
      (simp only [Int.toNat_natCast, mulS_eq, Nat.mul_one, Nat.zero_add, List.drop_zero, List.nil_append, List.take_zero, ht]; first | (refine J () trivial _ _ _ (sub_of [0, 2, 1, 4] rfl rfl rfl rfl ?hv ?hh (by (repeat' (first | exact rfl | exact trivial | exact sim_refl _ | refine And.intro ?_ ?_))) (by (repeat' (first | exact rfl | exact trivial | exact sim_refl _ | refine And.intro ?_ ?_)))); (case hv => (repeat' (first | exact rfl | exact trivial | exact sim_refl _ | refine And.intro ?_ ?_)); done); (case hh => (repeat' (first | exact rfl | exact trivial | exact sim_refl _ | refine And.intro ?_ ?_)); done)) | (refine J () trivial _ _ _ (sub_of [0, 2, 1, 6] rfl rfl rfl rfl ?hv ?hh (by (repeat' (first | exact rfl | exact trivial | exact sim_refl _ | refine And.intro ?_ ?_))) (by (repeat' (first | exact rfl | exact trivial | exact sim_refl _ | refine And.intro ?_ ?_)))); (case hv => (repeat' (first | exact rfl | exact trivial | exact sim_refl _ | refine And.intro ?_ ?_)); done); (case hh => (repeat' (first | exact rfl | exact trivial | exact sim_refl _ | refine And.intro ?_ ?_)); done)))
    · try simp [-List.getD_eq_getElem?_getD, -List.length_eq_zero_iff] at hb0
      refine sxb hXMk [.r 7] [.F] 4000 rfl (by (simp [-List.getD_eq_getElem?_getD, -List.length_eq_zero_iff, conjP, addOP, hb0] <;> (first | omega | ((repeat' (refine And.intro ?_ ?_)) <;> (first | omega | exact decide_eq_false (by omega) | exact decide_eq_true (by omega)))))) ?_
      refine ss_pb hXMk [.r 7] [] 4000 rfl (fun hb1 => ?_) (fun hb1 => ?_)
      · try simp [-List.getD_eq_getElem?_getD, -List.length_eq_zero_iff] at hb1
        refine sxb hXMk [.r 7] [.T] 4000 rfl (by (simp [-List.getD_eq_getElem?_getD, -List.length_eq_zero_iff, conjP, addOP, hb1] <;> (first | omega | ((repeat' (refine And.intro ?_ ?_)) <;> (first | omega | exact decide_eq_false (by omega) | exact decide_eq_true (by omega)))))) ?_
        refine sxb hXMk [.r 7] [.T] 4000 rfl (by (simp [-List.getD_eq_getElem?_getD, -List.length_eq_zero_iff, conjP, addOP, hb0] <;> (first | omega | ((repeat' (refine And.intro ?_ ?_)) <;> (first | omega | exact decide_eq_false (by omega) | exact decide_eq_true (by omega)))))) ?_
        refine sxb hXMk [.r 7] [.F] 4000 rfl (by (simp [-List.getD_eq_getElem?_getD, -List.length_eq_zero_iff, conjP, hl, hb1] <;> (first | omega | ((repeat' (refine And.intro ?_ ?_)) <;> (first | omega | exact decide_eq_false (by omega) | exact decide_eq_true (by omega)))))) ?_
        (simp only [Int.toNat_natCast, mulS_eq, Nat.mul_one, Nat.zero_add, List.drop_zero, List.nil_append, List.take_zero, ht]; first | (refine J () trivial _ _ _ (sub_of [0, 2, 1, 4] rfl rfl rfl rfl ?hv ?hh (by (repeat' (first | exact rfl | exact trivial | exact sim_refl _ | refine And.intro ?_ ?_))) (by (repeat' (first | exact rfl | exact trivial | exact sim_refl _ | refine And.intro ?_ ?_)))); (case hv => (repeat' (first | exact rfl | exact trivial | exact sim_refl _ | refine And.intro ?_ ?_)); done); (case hh => (repeat' (first | exact rfl | exact trivial | exact sim_refl _ | refine And.intro ?_ ?_)); done)) | (refine J () trivial _ _ _ (sub_of [0, 2, 1, 6] rfl rfl rfl rfl ?hv ?hh (by (repeat' (first | exact rfl | exact trivial | exact sim_refl _ | refine And.intro ?_ ?_))) (by (repeat' (first | exact rfl | exact trivial | exact sim_refl _ | refine And.intro ?_ ?_)))); (case hv => (repeat' (first | exact rfl | exact trivial | exact sim_refl _ | refine And.intro ?_ ?_)); done); (case hh => (repeat' (first | exact rfl | exact trivial | exact sim_refl _ | refine And.intro ?_ ?_)); done)))
      · try simp [-List.getD_eq_getElem?_getD, -List.length_eq_zero_iff] at hb1
        refine sxb hXMk [.r 7] [.F] 4000 rfl (by (simp [-List.getD_eq_getElem?_getD, -List.length_eq_zero_iff, conjP, hb1] <;> (first | omega | ((repeat' (refine And.intro ?_ ?_)) <;> (first | omega | exact decide_eq_false (by omega) | exact decide_eq_true (by omega)))))) ?_
        refine sxb hXMk [.r 7] [.T] 4000 rfl (by (simp [-List.getD_eq_getElem?_getD, -List.length_eq_zero_iff, conjP, addOP, hb0] <;> (first | omega | ((repeat' (refine And.intro ?_ ?_)) <;> (first | omega | exact decide_eq_false (by omega) | exact decide_eq_true (by omega)))))) ?_
        refine sxb hXMk [.r 7] [.F] 4000 rfl (by (simp [-List.getD_eq_getElem?_getD, -List.length_eq_zero_iff, conjP, hl, hb1] <;> (first | omega | ((repeat' (refine And.intro ?_ ?_)) <;> (first | omega | exact decide_eq_false (by omega) | exact decide_eq_true (by omega)))))) ?_
        (simp only [Int.toNat_natCast, mulS_eq, Nat.mul_one, Nat.zero_add, List.drop_zero, List.nil_append, List.take_zero, ht]; first | (refine J () trivial _ _ _ (sub_of [0, 2, 1, 4] rfl rfl rfl rfl ?hv ?hh (by (repeat' (first | exact rfl | exact trivial | exact sim_refl _ | refine And.intro ?_ ?_))) (by (repeat' (first | exact rfl | exact trivial | exact sim_refl _ | refine And.intro ?_ ?_)))); (case hv => (repeat' (first | exact rfl | exact trivial | exact sim_refl _ | refine And.intro ?_ ?_)); done); (case hh => (repeat' (first | exact rfl | exact trivial | exact sim_refl _ | refine And.intro ?_ ?_)); done)) | (refine J () trivial _ _ _ (sub_of [0, 2, 1, 6] rfl rfl rfl rfl ?hv ?hh (by (repeat' (first | exact rfl | exact trivial | exact sim_refl _ | refine And.intro ?_ ?_))) (by (repeat' (first | exact rfl | exact trivial | exact sim_refl _ | refine And.intro ?_ ?_)))); (case hv => (repeat' (first | exact rfl | exact trivial | exact sim_refl _ | refine And.intro ?_ ?_)); done); (case hh => (repeat' (first | exact rfl | exact trivial | exact sim_refl _ | refine And.intro ?_ ?_)); done)))
  case rest =>
    refine sxb hXMk [.l] [] 400 rfl (by first | exact trivial | simp [conjP]) ?_
    refine ss_sub hXMk (T' := mkTi K 0) (H' := mkH0 K) [0, 1, 2, 3] rfl rfl rfl rfl (by (repeat' (first | exact rfl | exact trivial | exact sim_refl _ | refine And.intro ?_ ?_))) (by (repeat' (first | exact rfl | exact trivial | exact sim_refl _ | refine And.intro ?_ ?_))) (by (repeat' (first | exact rfl | exact trivial | exact sim_refl _ | refine And.intro ?_ ?_))) (by (repeat' (first | exact rfl | exact trivial | exact sim_refl _ | refine And.intro ?_ ?_))) ?_
    refine ss_loop hXMk (fun i : Nat => mkTi K i) (fun _ => mkH0 K) (fun i => i ≤ K) (fun i => K - i) 0 (Nat.zero_le _) ?_
    intro i hi I back
    have hg := rep_get K i
    have hw : IntKind.i64.wrap ((i : Int) + 1) = ((i + 1 : Nat) : Int) := by rw [wi64 (by omega) (by omega)]; omega
    by_cases hb : i < K
    · refine sx hXMk [] 4000 rfl (by (simp [-List.getD_eq_getElem?_getD, -List.length_eq_zero_iff, conjP] <;> (first | omega | ((repeat' (refine And.intro ?_ ?_)) <;> (first | omega | exact decide_eq_false (by omega) | exact decide_eq_true (by omega)))))) ?_
      refine sx hXMk [.T] 4000 rfl (by (simp [-List.getD_eq_getElem?_getD, -List.length_eq_zero_iff, conjP, hl, hb, cellOff] <;> (first | omega | ((repeat' (refine And.intro ?_ ?_)) <;> (first | omega | exact decide_eq_false (by omega) | exact decide_eq_true (by omega)))))) ?_
      refine sx hXMk [.F] 4000 rfl (by (simp [-List.getD_eq_getElem?_getD, -List.length_eq_zero_iff, conjP, addOP, hg, cellOff] <;> (first | omega | ((repeat' (refine And.intro ?_ ?_)) <;> (first | omega | exact decide_eq_false (by omega) | exact decide_eq_true (by omega)))))) ?_
      (refine back (i + 1) (by omega) (by omega) _ _ _ (sub_of [0, 1, 2, 3] rfl rfl rfl rfl ?hv ?hh (by (repeat' (first | exact rfl | exact trivial | exact sim_refl _ | refine And.intro ?_ ?_))) (by (repeat' (first | exact rfl | exact trivial | exact sim_refl _ | refine And.intro ?_ ?_)))); (case hv => exact ⟨by (repeat' (first | exact rfl | exact trivial | exact sim_refl _ | refine And.intro ?_ ?_)), by (repeat' (first | exact rfl | exact trivial | exact sim_refl _ | refine And.intro ?_ ?_)), by (repeat' (first | exact rfl | exact trivial | exact sim_refl _ | refine And.intro ?_ ?_)), by (repeat' (first | exact rfl | exact trivial | exact sim_refl _ | refine And.intro ?_ ?_)), ⟨rfl, hw⟩, trivial⟩); (case hh => (repeat' (first | exact rfl | exact trivial | exact sim_refl _ | refine And.intro ?_ ?_)); done))
    · have hb' : ¬ (i : Int) < (K : Int) := by omega
      refine sx hXMk [] 4000 rfl (by (simp [-List.getD_eq_getElem?_getD, -List.length_eq_zero_iff, conjP] <;> (first | omega | ((repeat' (refine And.intro ?_ ?_)) <;> (first | omega | exact decide_eq_false (by omega) | exact decide_eq_true (by omega)))))) ?_
      refine sx hXMk [.F] 4000 rfl (by (simp [-List.getD_eq_getElem?_getD, -List.length_eq_zero_iff, conjP, addOP, hb'] <;> (first | omega | ((repeat' (refine And.intro ?_ ?_)) <;> (first | omega | exact decide_eq_false (by omega) | exact decide_eq_true (by omega)))))) ?_
      refine sx hXMk [.T] 4000 rfl (by (simp [-List.getD_eq_getElem?_getD, -List.length_eq_zero_iff, conjP, addOP] <;> (first | omega | ((repeat' (refine And.intro ?_ ?_)) <;> (first | omega | exact decide_eq_false (by omega) | exact decide_eq_true (by omega)))))) ?_
      refine sx hXMk [.T] 4000 rfl (by (simp [-List.getD_eq_getElem?_getD, -List.length_eq_zero_iff, conjP, addOP] <;> (first | omega | ((repeat' (refine And.intro ?_ ?_)) <;> (first | omega | exact decide_eq_false (by omega) | exact decide_eq_true (by omega)))))) ?_
      refine sx hXMk [.T] 4000 rfl (by (simp [-List.getD_eq_getElem?_getD, -List.length_eq_zero_iff, conjP, addOP] <;> (first | omega | ((repeat' (refine And.intro ?_ ?_)) <;> (first | omega | exact decide_eq_false (by omega) | exact decide_eq_true (by omega)))))) ?_
      refine sx hXMk [.T] 4000 rfl (by (simp [-List.getD_eq_getElem?_getD, -List.length_eq_zero_iff, conjP, addOP] <;> (first | omega | ((repeat' (refine And.intro ?_ ?_)) <;> (first | omega | exact decide_eq_false (by omega) | exact decide_eq_true (by omega)))))) ?_
      (exact ss_end hXMk [0] rfl rfl trivial rfl rfl rfl rfl (by first | ((repeat' (first | exact rfl | exact trivial | exact sim_refl _ | refine And.intro ?_ ?_)); done) | (simp [tupF, SV.ren, sim, simO0]; done)) (by (repeat' (first | exact rfl | exact trivial | exact sim_refl _ | refine And.intro ?_ ?_))) (by (repeat' (first | exact rfl | exact trivial | exact sim_refl _ | refine And.intro ?_ ?_))) (by (repeat' (first | exact rfl | exact trivial | exact sim_refl _ | refine And.intro ?_ ?_))))
end Go.Proofs.YticejfomcekolaaDoor
namespace Go.Proofs.YticejfomcekolaaDoor.arenaMakes
open Go Go.Hx
theorem walk (n : Int) (_ : (Lit.int .i64 n).wf = true) (m : Int) (_ : (Lit.int .i64 m).wf = true) : Gives Tryd.prog 3 [.int .i64 n, .int .i64 m] [pinE RTV] (Is .tt [pinE RTV]) := arenaMakes_fn n m
end Go.Proofs.YticejfomcekolaaDoor.arenaMakes
