/- Two rows of words, compared. -/
import Derived.Test.YtkkddjchkkaagaaGreatDoorHas
import Derived.Test.YtkkddjchkkaagaaGreatDoorArenaSteps
namespace Go.Proofs.YtkkddjchkkaagaaGreatDoor
open Go Go.Hx
set_option maxRecDepth 8000


/-! Two rows of words, compared. -/
abbrev UB (l : List Int) : HE := .obj (.buf .u64 l 1 52)
def smT (A B : List Int) : Nat → List (Nat × SV)
  | i => [(0, .sbuf 0 1 0 A.length), (1, .slice 1 0 B.length B.length), (5, .int .i64 (i : Int))]
theorem take_succ_eq {A B : List Int} {i : Nat} (ha : i < A.length) (hb : i < B.length) (h : A.take i = B.take i) (he : A.getD i 0 = B.getD i 0) : A.take (i + 1) = B.take (i + 1) := by
  rw [List.take_add_one, List.take_add_one, h]
  have e1 : A[i]? = some (A.getD i 0) := by rw [List.getD_eq_getElem?_getD, List.getElem?_eq_getElem ha]; rfl
  have e2 : B[i]? = some (B.getD i 0) := by rw [List.getD_eq_getElem?_getD, List.getElem?_eq_getElem hb]; rfl
  rw [e1, e2, he]
theorem same_fn (A B : List Int) (hA : A.length < 1000000) (_hB : B.length < 1000000) : Gives Tryz.prog 72 [.sbuf 0 1 0 A.length, .slice 1 0 B.length B.length] [UB A, WO B] (Is (.bool (decide (A = B))) [UB A, WO B]) := by
  refine gives_x hXH0 (fn := Tryz.f72) rfl rfl rfl rfl fun ρ w => ?_
  by_cases hl : A.length = B.length
  · refine sxb hXH0 [.l] [.F] 400 rfl (by simp [conjP, hl]) ?_
    refine ss_sub hXH0 (T' := smT A B 0) (H' := [UB A, WO B]) [0, 1] rfl rfl rfl rfl (by (repeat' (first | exact rfl | exact trivial | exact sim_refl _ | refine And.intro ?_ ?_))) (by (repeat' (first | exact rfl | exact trivial | exact sim_refl _ | refine And.intro ?_ ?_))) (by (repeat' (first | exact rfl | exact trivial | exact sim_refl _ | refine And.intro ?_ ?_))) (by (repeat' (first | exact rfl | exact trivial | exact sim_refl _ | refine And.intro ?_ ?_))) ?_
    refine ss_loop hXH0 (smT A B) (fun _ => [UB A, WO B]) (fun i => i ≤ A.length ∧ A.take i = B.take i) (fun i => A.length - i) 0 ⟨Nat.zero_le _, by simp⟩ ?_
    rintro i ⟨hi, ht⟩ I back
    by_cases hi2 : i < A.length
    · have hi3 : i < B.length := by omega
      by_cases he : A.getD i 0 = B.getD i 0
      · refine sx hXH0 [] 400 rfl (by (simp [-List.getD_eq_getElem?_getD, -List.length_eq_zero_iff, conjP])) ?_
        refine sx hXH0 [.T] 400 rfl (by (simp [-List.getD_eq_getElem?_getD, -List.length_eq_zero_iff, conjP, hi2, hi3, cellOff])) ?_
        refine sx hXH0 [.F] 400 rfl (by (simp [-List.getD_eq_getElem?_getD, -List.length_eq_zero_iff, conjP, addOP, cellOff, he])) ?_
        (refine back (i + 1) ⟨by omega, take_succ_eq hi2 hi3 ht he⟩ (by omega) _ _ _ (sub_of [0, 1] rfl rfl rfl rfl ⟨by (repeat' (first | exact rfl | exact trivial | exact sim_refl _ | refine And.intro ?_ ?_)), by (repeat' (first | exact rfl | exact trivial | exact sim_refl _ | refine And.intro ?_ ?_)), ⟨rfl, wi64 (by omega) (by omega)⟩, trivial⟩ (by (repeat' (first | exact rfl | exact trivial | exact sim_refl _ | refine And.intro ?_ ?_))) (by (repeat' (first | exact rfl | exact trivial | exact sim_refl _ | refine And.intro ?_ ?_))) (by (repeat' (first | exact rfl | exact trivial | exact sim_refl _ | refine And.intro ?_ ?_)))))
      · have hne : ¬ A = B := fun h => he (by rw [h])
        refine sx hXH0 [] 400 rfl (by (simp [-List.getD_eq_getElem?_getD, -List.length_eq_zero_iff, conjP])) ?_
        refine sx hXH0 [.T] 400 rfl (by (simp [-List.getD_eq_getElem?_getD, -List.length_eq_zero_iff, conjP, hi2, hi3, cellOff])) ?_
        refine sx hXH0 [.T] 400 rfl (by (simp [-List.getD_eq_getElem?_getD, -List.length_eq_zero_iff, conjP, addOP, cellOff, he])) ?_
        (refine ss_end hXH0 [0, 1] rfl rfl trivial rfl rfl rfl rfl ?hv (by (repeat' (first | exact rfl | exact trivial | exact sim_refl _ | refine And.intro ?_ ?_))) (by (repeat' (first | exact rfl | exact trivial | exact sim_refl _ | refine And.intro ?_ ?_))) (by (repeat' (first | exact rfl | exact trivial | exact sim_refl _ | refine And.intro ?_ ?_))); (case hv => rw [decide_eq_false hne]; exact rfl))
    · have hAB : A = B := by
        have e : i = A.length := by omega
        rw [e, List.take_length, hl, List.take_length] at ht
        exact ht
      refine sx hXH0 [] 400 rfl (by (simp [-List.getD_eq_getElem?_getD, -List.length_eq_zero_iff, conjP])) ?_
      refine sx hXH0 [.F] 400 rfl (by (simp [-List.getD_eq_getElem?_getD, -List.length_eq_zero_iff, conjP, addOP, hi2])) ?_
      (refine ss_end hXH0 [0, 1] rfl rfl trivial rfl rfl rfl rfl ?hv (by (repeat' (first | exact rfl | exact trivial | exact sim_refl _ | refine And.intro ?_ ?_))) (by (repeat' (first | exact rfl | exact trivial | exact sim_refl _ | refine And.intro ?_ ?_))) (by (repeat' (first | exact rfl | exact trivial | exact sim_refl _ | refine And.intro ?_ ?_))); (case hv => rw [decide_eq_true hAB]; exact rfl))
  · have hne : ¬ A = B := fun h => hl (by rw [h])
    refine sx hXH0 [] 400 rfl (by (simp [-List.getD_eq_getElem?_getD, -List.length_eq_zero_iff, conjP])) ?_
    refine sx hXH0 [.T] 400 rfl (by (simp [-List.getD_eq_getElem?_getD, -List.length_eq_zero_iff, conjP, addOP] <;> (first | omega | ((repeat' (refine And.intro ?_ ?_)) <;> (first | omega | exact decide_eq_false (by omega) | exact decide_eq_true (by omega)))))) ?_
    (refine ss_end hXH0 [0, 1] rfl rfl trivial rfl rfl rfl rfl ?hv (by (repeat' (first | exact rfl | exact trivial | exact sim_refl _ | refine And.intro ?_ ?_))) (by (repeat' (first | exact rfl | exact trivial | exact sim_refl _ | refine And.intro ?_ ?_))) (by (repeat' (first | exact rfl | exact trivial | exact sim_refl _ | refine And.intro ?_ ?_))); (case hv => rw [decide_eq_false hne]; exact rfl))
def sameS : Hx.Spec := fun args H => match args with
  | [.sbuf h 1 0 l, .slice h2 0 l2 c] => match getH H h, getH H h2, nodupN [h, h2] with
    | some (.buf .u64 A 1 52), some (.ints .u64 B 52), true => some ([l = A.length, l2 = B.length, c = B.length, A.length < 1000000, B.length < 1000000], .bool (decide (A = B)), H)
    | _, _, _ => none
  | _ => none
theorem sameS_ok {args : List SV} {H : List HE} {ob : List Prop} {V : SV} {L : List HE} (hs : sameS args H = some (ob, V, L)) (ho : AllP ob) : Gives Tryz.prog 72 args H (Is V L) := by
  unfold sameS at hs
  split at hs
  · rename_i _ h l h2 l2 c
    split at hs
    · rename_i _ _ _ A B g1 g2 hn
      simp only [Option.some.injEq, Prod.mk.injEq] at hs
      obtain ⟨rfl, rfl, rfl⟩ := hs
      have o1 := ho _ (List.mem_cons_self ..)
      have o2 := ho _ (List.mem_cons_of_mem _ (List.mem_cons_self ..))
      have o3 := ho _ (List.mem_cons_of_mem _ (List.mem_cons_of_mem _ (List.mem_cons_self ..)))
      have o4 := ho _ (List.mem_cons_of_mem _ (List.mem_cons_of_mem _ (List.mem_cons_of_mem _ (List.mem_cons_self ..))))
      have o5 := ho _ (List.mem_cons_of_mem _ (List.mem_cons_of_mem _ (List.mem_cons_of_mem _ (List.mem_cons_of_mem _ (List.mem_cons_self ..)))))
      subst o1; subst o2; subst o3
      have := frame2n (H := H) (h0 := h) (h1 := h2) ⟨_, hTE⟩ (same_fn A B o4 o5) rfl rfl rfl hn g1 g2 rfl rfl rfl
      rw [show (H.set h (.obj (SO.ren (nm [h, h2] H) (.buf .u64 A 1 52)))) = H from set_self g1] at this
      rw [show (H.set h2 (.obj (SO.ren (nm [h, h2] H) (.ints .u64 B 52)))) = H from set_self g2] at this
      exact this
    · simp at hs
  · simp at hs

end Go.Proofs.YtkkddjchkkaagaaGreatDoor
