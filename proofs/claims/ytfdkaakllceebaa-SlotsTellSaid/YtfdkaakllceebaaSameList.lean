/- Two lists compared. -/
import Derived.Test.YtfdkaakllceebaaSlotTab
import Derived.Test.YtfdkaakllceebaaNamedLaw
namespace Go.Proofs.Ytfdkaakllceebaa
open Go Go.Hx
set_option maxRecDepth 8000
theorem take_succ_eq {A B : List Int} {i : Nat} (ha : i < A.length) (hb : i < B.length) (h : A.take i = B.take i) (he : A.getD i 0 = B.getD i 0) : A.take (i + 1) = B.take (i + 1) := by
  rw [List.take_add_one, List.take_add_one, h]
  have e1 : A[i]? = some (A.getD i 0) := by rw [List.getD_eq_getElem?_getD, List.getElem?_eq_getElem ha]; rfl
  have e2 : B[i]? = some (B.getD i 0) := by rw [List.getD_eq_getElem?_getD, List.getElem?_eq_getElem hb]; rfl
  rw [e1, e2, he]
def sqT (A B : List Int) : Nat → List (Nat × SV)
  | i => [(0, .sbuf 0 1 0 A.length), (1, .sbuf 1 1 0 B.length), (5, .int .i64 (i : Int))]
theorem sq_fn (A B : List Int) (hA : A.length < 1000000) (hB : B.length < 1000000) : Gives Try.prog 34 [.sbuf 0 1 0 A.length, .sbuf 1 1 0 B.length] [IB A, IB B] (Is (.bool (decide (A = B))) [IB A, IB B]) := by
  refine gives_x hXS0 (fn := Try.f34) rfl rfl rfl rfl fun ρ w => ?_
  by_cases hl : A.length = B.length
  · refine sxb hXS0 [.l] [.F] 400 rfl (by simp [conjP, hl]) ?_
    refine ss_sub hXS0 (T' := sqT A B 0) (H' := [IB A, IB B]) [0, 1] rfl rfl rfl rfl (by (repeat' (first | exact rfl | exact trivial | exact sim_refl _ | refine And.intro ?_ ?_))) (by (repeat' (first | exact rfl | exact trivial | exact sim_refl _ | refine And.intro ?_ ?_))) (by (repeat' (first | exact rfl | exact trivial | exact sim_refl _ | refine And.intro ?_ ?_))) (by (repeat' (first | exact rfl | exact trivial | exact sim_refl _ | refine And.intro ?_ ?_))) ?_
    refine ss_loop hXS0 (sqT A B) (fun _ => [IB A, IB B]) (fun i => i ≤ A.length ∧ A.take i = B.take i) (fun i => A.length - i) 0 ⟨Nat.zero_le _, by simp⟩ ?_
    rintro i ⟨hi, ht⟩ I back
    by_cases hi2 : i < A.length
    · have hi3 : i < B.length := by omega
      by_cases he : A.getD i 0 = B.getD i 0
      · refine sx hXS0 [] 400 rfl (by (simp [-List.getD_eq_getElem?_getD, -List.length_eq_zero_iff, conjP])) ?_
        refine sx hXS0 [.T] 400 rfl (by (simp [-List.getD_eq_getElem?_getD, -List.length_eq_zero_iff, conjP, hi2, hi3, cellOff])) ?_
        refine sx hXS0 [.F] 400 rfl (by (simp [-List.getD_eq_getElem?_getD, -List.length_eq_zero_iff, conjP, addOP, cellOff, he])) ?_
        (refine back (i + 1) ⟨by omega, take_succ_eq hi2 hi3 ht he⟩ (by omega) _ _ _ (sub_of [0, 1] rfl rfl rfl rfl ⟨by (repeat' (first | exact rfl | exact trivial | exact sim_refl _ | refine And.intro ?_ ?_)), by (repeat' (first | exact rfl | exact trivial | exact sim_refl _ | refine And.intro ?_ ?_)), ⟨rfl, wi64 (by omega) (by omega)⟩, trivial⟩ (by (repeat' (first | exact rfl | exact trivial | exact sim_refl _ | refine And.intro ?_ ?_))) (by (repeat' (first | exact rfl | exact trivial | exact sim_refl _ | refine And.intro ?_ ?_))) (by (repeat' (first | exact rfl | exact trivial | exact sim_refl _ | refine And.intro ?_ ?_)))))
      · have hne : ¬ A = B := fun h => he (by rw [h])
        refine sx hXS0 [] 400 rfl (by (simp [-List.getD_eq_getElem?_getD, -List.length_eq_zero_iff, conjP])) ?_
        refine sx hXS0 [.T] 400 rfl (by (simp [-List.getD_eq_getElem?_getD, -List.length_eq_zero_iff, conjP, hi2, hi3, cellOff])) ?_
        refine sx hXS0 [.T] 400 rfl (by (simp [-List.getD_eq_getElem?_getD, -List.length_eq_zero_iff, conjP, addOP, cellOff, he])) ?_
        (refine ss_end hXS0 [0, 1] rfl rfl trivial rfl rfl rfl rfl ?hv (by (repeat' (first | exact rfl | exact trivial | exact sim_refl _ | refine And.intro ?_ ?_))) (by (repeat' (first | exact rfl | exact trivial | exact sim_refl _ | refine And.intro ?_ ?_))) (by (repeat' (first | exact rfl | exact trivial | exact sim_refl _ | refine And.intro ?_ ?_))); (case hv => rw [decide_eq_false hne]; exact rfl))
    · have hAB : A = B := by
        have e : i = A.length := by omega
        rw [e, List.take_length, hl, List.take_length] at ht
        exact ht
      refine sx hXS0 [] 400 rfl (by (simp [-List.getD_eq_getElem?_getD, -List.length_eq_zero_iff, conjP])) ?_
      refine sx hXS0 [.F] 400 rfl (by (simp [-List.getD_eq_getElem?_getD, -List.length_eq_zero_iff, conjP, addOP, hi2])) ?_
      (refine ss_end hXS0 [0, 1] rfl rfl trivial rfl rfl rfl rfl ?hv (by (repeat' (first | exact rfl | exact trivial | exact sim_refl _ | refine And.intro ?_ ?_))) (by (repeat' (first | exact rfl | exact trivial | exact sim_refl _ | refine And.intro ?_ ?_))) (by (repeat' (first | exact rfl | exact trivial | exact sim_refl _ | refine And.intro ?_ ?_))); (case hv => rw [decide_eq_true hAB]; exact rfl))
  · have hne : ¬ A = B := fun h => hl (by rw [h])
    refine sx hXS0 [] 400 rfl (by (simp [-List.getD_eq_getElem?_getD, -List.length_eq_zero_iff, conjP])) ?_
    refine sx hXS0 [.T] 400 rfl (by (simp [-List.getD_eq_getElem?_getD, -List.length_eq_zero_iff, conjP, addOP] <;> (first | omega | ((repeat' (refine And.intro ?_ ?_)) <;> (first | omega | exact decide_eq_false (by omega) | exact decide_eq_true (by omega)))))) ?_
    (refine ss_end hXS0 [0, 1] rfl rfl trivial rfl rfl rfl rfl ?hv (by (repeat' (first | exact rfl | exact trivial | exact sim_refl _ | refine And.intro ?_ ?_))) (by (repeat' (first | exact rfl | exact trivial | exact sim_refl _ | refine And.intro ?_ ?_))) (by (repeat' (first | exact rfl | exact trivial | exact sim_refl _ | refine And.intro ?_ ?_))); (case hv => rw [decide_eq_false hne]; exact rfl))
theorem sq_nil : Gives Try.prog 34 [.nilslice, .nilslice] [] (Is .tt []) := by
  refine gives_x hXS1 (fn := Try.f34) rfl rfl rfl rfl fun ρ w => ?_
  refine sx hXS1 [] 400 rfl (by (simp [-List.getD_eq_getElem?_getD, -List.length_eq_zero_iff, conjP])) ?_
  refine sx hXS1 [.F] 400 rfl (by (simp [-List.getD_eq_getElem?_getD, -List.length_eq_zero_iff, conjP, addOP])) ?_
  refine sx hXS1 [.F] 400 rfl (by (simp [-List.getD_eq_getElem?_getD, -List.length_eq_zero_iff, conjP, addOP])) ?_
  (exact ss_end hXS1 [] rfl rfl trivial rfl rfl rfl rfl (by (repeat' (first | exact rfl | exact trivial | exact sim_refl _ | refine And.intro ?_ ?_))) (by (repeat' (first | exact rfl | exact trivial | exact sim_refl _ | refine And.intro ?_ ?_))) (by (repeat' (first | exact rfl | exact trivial | exact sim_refl _ | refine And.intro ?_ ?_))) (by (repeat' (first | exact rfl | exact trivial | exact sim_refl _ | refine And.intro ?_ ?_))))
theorem sq_one (B : List Int) (h0 : 0 < B.length) (hB : B.length < 1000000) : Gives Try.prog 34 [.nilslice, .sbuf 0 1 0 B.length] [IB B] (Is .ff [IB B]) := by
  have h1 : ¬ (0 : Int) = (B.length : Int) := by omega
  have h2 : ¬ (B.length : Int) = 0 := by omega
  have h3 : ¬ B.length = 0 := by omega
  refine gives_x hXS1 (fn := Try.f34) rfl rfl rfl rfl fun ρ w => ?_
  refine sx hXS1 [] 400 rfl (by (simp [-List.getD_eq_getElem?_getD, -List.length_eq_zero_iff, conjP])) ?_
  refine sx hXS1 [.T] 400 rfl (by (simp [-List.getD_eq_getElem?_getD, -List.length_eq_zero_iff, conjP, addOP, h1])) ?_
  (exact ss_end hXS1 [0] rfl rfl trivial rfl rfl rfl rfl (by (repeat' (first | exact rfl | exact trivial | exact sim_refl _ | refine And.intro ?_ ?_))) (by (repeat' (first | exact rfl | exact trivial | exact sim_refl _ | refine And.intro ?_ ?_))) (by (repeat' (first | exact rfl | exact trivial | exact sim_refl _ | refine And.intro ?_ ?_))) (by (repeat' (first | exact rfl | exact trivial | exact sim_refl _ | refine And.intro ?_ ?_))))
def sqS : Hx.Spec := fun args H => match args with
  | [.nilslice, .nilslice] => some ([], .tt, H)
  | [.nilslice, .sbuf h2 1 0 l2] => match getH H h2 with
    | some (.buf .i64 B 1 3) => some ([l2 = B.length, 0 < B.length, B.length < 1000000], .ff, H)
    | _ => none
  | [.sbuf h 1 0 l, .sbuf h2 1 0 l2] => match getH H h, getH H h2, nodupN [h, h2] with
    | some (.buf .i64 A 1 3), some (.buf .i64 B 1 3), true => some ([l = A.length, l2 = B.length, A.length < 1000000, B.length < 1000000], .bool (decide (A = B)), H)
    | _, _, _ => none
  | _ => none
theorem sqS_ok {args : List SV} {H : List HE} {ob : List Prop} {V : SV} {L : List HE} (hs : sqS args H = some (ob, V, L)) (ho : AllP ob) : Gives Try.prog 34 args H (Is V L) := by
  unfold sqS at hs
  split at hs
  · simp only [Option.some.injEq, Prod.mk.injEq] at hs
    obtain ⟨rfl, rfl, rfl⟩ := hs
    have := frame0 (H := H) ⟨_, hTE⟩ sq_nil rfl rfl
    simpa [SV.ren] using this
  · rename_i _ h2 l2
    split at hs
    · rename_i _ B g2
      simp only [Option.some.injEq, Prod.mk.injEq] at hs
      obtain ⟨rfl, rfl, rfl⟩ := hs
      simp only [AllP, List.mem_cons, List.not_mem_nil, or_false, forall_eq_or_imp, forall_eq] at ho
      obtain ⟨rfl, o4, o5⟩ := ho
      have := frame1 (N := []) (H := H) (h0 := h2) (ags := [.nilslice, .sbuf h2 1 0 B.length]) ⟨_, hTE⟩ (sq_one B o4 o5) rfl rfl rfl g2 rfl
      rw [show (H.set h2 (.obj (SO.ren (nm [h2] H) (.buf .i64 B 1 3)))) = H from set_self g2] at this
      simpa [SV.ren] using this
    · simp at hs
  · rename_i _ h l h2 l2
    split at hs
    · rename_i _ _ _ A B g1 g2 hn
      simp only [Option.some.injEq, Prod.mk.injEq] at hs
      obtain ⟨rfl, rfl, rfl⟩ := hs
      simp only [AllP, List.mem_cons, List.not_mem_nil, or_false, forall_eq_or_imp, forall_eq] at ho
      obtain ⟨rfl, rfl, o4, o5⟩ := ho
      have := frame2n (H := H) (h0 := h) (h1 := h2) ⟨_, hTE⟩ (sq_fn A B o4 o5) rfl rfl rfl hn g1 g2 rfl rfl rfl
      rw [show (H.set h (.obj (SO.ren (nm [h, h2] H) (.buf .i64 A 1 3)))) = H from set_self g1] at this
      rw [show (H.set h2 (.obj (SO.ren (nm [h, h2] H) (.buf .i64 B 1 3)))) = H from set_self g2] at this
      exact this
    · simp at hs
  · simp at hs
end Go.Proofs.Ytfdkaakllceebaa

