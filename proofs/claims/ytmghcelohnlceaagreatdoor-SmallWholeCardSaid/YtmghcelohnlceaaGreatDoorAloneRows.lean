/- Runs that are done, or are none: their steps, as rows; who holds, as a row. -/
import Derived.Test.YtmghcelohnlceaaGreatDoorAloneHold
namespace Go.Proofs.YtmghcelohnlceaaGreatDoor
open Go Go.Hx
set_option maxRecDepth 8000
set_option linter.unusedVariables false
def ctSu : Nat → Option Hx.Spec
  | _ => none
theorem ctSu_ok : ∀ f s args H ob V L, ctSu f = some s → s args H = some (ob, V, L) → AllP ob → Gives Tryz.prog f args H (Is V L) := by
  intro f s args H ob V L h hs ho
  unfold ctSu at h
  split at h
  · simp at h
noncomputable def XSu : Tabs := tabs tr ft xt (fun _ => none) ctSu 20
theorem hXSu : TOk Tryz.prog (XSu) := ⟨hTE, hFT, ctSu_ok, hXT, fun t ks h => by simp [XSu, tabs] at h, mixed⟩
theorem wNil_fn : Gives Tryz.prog 13 [.nilptr, .ptr 0 0] [.opq] (Is .tt [.opq]) := by
  refine gives_x hXSu (fn := Tryz.f13) rfl rfl rfl rfl fun ρ w => ?_
  refine sx hXSu [] 400 rfl (by (simp [-List.getD_eq_getElem?_getD, -List.length_eq_zero_iff, conjP])) ?_
  (exact ss_end hXSu [0] rfl rfl trivial rfl rfl rfl rfl (by (repeat' (first | exact rfl | exact trivial | exact sim_refl _ | refine And.intro ?_ ?_))) (by (repeat' (first | exact rfl | exact trivial | exact sim_refl _ | refine And.intro ?_ ?_))) (by (repeat' (first | exact rfl | exact trivial | exact sim_refl _ | refine And.intro ?_ ?_))) (by (repeat' (first | exact rfl | exact trivial | exact sim_refl _ | refine And.intro ?_ ?_))))
theorem rNil_fn : Gives Tryz.prog 14 [.nilptr, .ptr 0 0] [.opq] (Is .tt [.opq]) := by
  refine gives_x hXSu (fn := Tryz.f14) rfl rfl rfl rfl fun ρ w => ?_
  refine sx hXSu [] 400 rfl (by (simp [-List.getD_eq_getElem?_getD, -List.length_eq_zero_iff, conjP])) ?_
  (exact ss_end hXSu [0] rfl rfl trivial rfl rfl rfl rfl (by (repeat' (first | exact rfl | exact trivial | exact sim_refl _ | refine And.intro ?_ ?_))) (by (repeat' (first | exact rfl | exact trivial | exact sim_refl _ | refine And.intro ?_ ?_))) (by (repeat' (first | exact rfl | exact trivial | exact sim_refl _ | refine And.intro ?_ ?_))) (by (repeat' (first | exact rfl | exact trivial | exact sim_refl _ | refine And.intro ?_ ?_))))
section
variable {R ep sn fl cm tm i c : Int} {n : Nat} {hd : Bool}
theorem wDn0_fn : Gives Tryz.prog 13 [.ptr 0 0, .ptr 1 0] [.obj (wrO R ep 0 sn fl cm tm .niliface 2 n i hd), .opq, .opq] (Is .tt [.obj (wrO R ep 0 sn fl cm tm .niliface 2 n i hd), .opq, .opq]) := by
  refine gives_x hXSu (fn := Tryz.f13) rfl rfl rfl rfl fun ρ w => ?_
  refine sx hXSu [] 400 rfl (by (simp [-List.getD_eq_getElem?_getD, -List.length_eq_zero_iff, conjP])) ?_
  refine sx hXSu [.T] 400 rfl (by (simp [-List.getD_eq_getElem?_getD, -List.length_eq_zero_iff, conjP, addOP])) ?_
  (exact ss_end hXSu [0, 1, 2] rfl rfl trivial rfl rfl rfl rfl (by (repeat' (first | exact rfl | exact trivial | exact sim_refl _ | refine And.intro ?_ ?_))) (by (repeat' (first | exact rfl | exact trivial | exact sim_refl _ | refine And.intro ?_ ?_))) (by (repeat' (first | exact rfl | exact trivial | exact sim_refl _ | refine And.intro ?_ ?_))) (by (repeat' (first | exact rfl | exact trivial | exact sim_refl _ | refine And.intro ?_ ?_))))
theorem wDn1_fn : Gives Tryz.prog 13 [.ptr 0 0, .ptr 1 0] [.obj (wrO R ep 0 sn fl cm tm (erO c) 2 n i hd), .opq, .opq] (Is .tt [.obj (wrO R ep 0 sn fl cm tm (erO c) 2 n i hd), .opq, .opq]) := by
  refine gives_x hXSu (fn := Tryz.f13) rfl rfl rfl rfl fun ρ w => ?_
  refine sx hXSu [] 400 rfl (by (simp [-List.getD_eq_getElem?_getD, -List.length_eq_zero_iff, conjP])) ?_
  refine sx hXSu [.T] 400 rfl (by (simp [-List.getD_eq_getElem?_getD, -List.length_eq_zero_iff, conjP, addOP])) ?_
  (exact ss_end hXSu [0, 1, 2] rfl rfl trivial rfl rfl rfl rfl (by (repeat' (first | exact rfl | exact trivial | exact sim_refl _ | refine And.intro ?_ ?_))) (by (repeat' (first | exact rfl | exact trivial | exact sim_refl _ | refine And.intro ?_ ?_))) (by (repeat' (first | exact rfl | exact trivial | exact sim_refl _ | refine And.intro ?_ ?_))) (by (repeat' (first | exact rfl | exact trivial | exact sim_refl _ | refine And.intro ?_ ?_))))
theorem rDn1_fn : Gives Tryz.prog 14 [.ptr 0 0, .ptr 1 0] [.obj (rdO R ep 0 sn fl cm tm (erO c) .nilslice), .opq] (Is .tt [.obj (rdO R ep 0 sn fl cm tm (erO c) .nilslice), .opq]) := by
  refine gives_x hXSu (fn := Tryz.f14) rfl rfl rfl rfl fun ρ w => ?_
  refine sx hXSu [] 400 rfl (by (simp [-List.getD_eq_getElem?_getD, -List.length_eq_zero_iff, conjP])) ?_
  refine sx hXSu [.T] 400 rfl (by (simp [-List.getD_eq_getElem?_getD, -List.length_eq_zero_iff, conjP, addOP])) ?_
  (exact ss_end hXSu [0, 1] rfl rfl trivial rfl rfl rfl rfl (by (repeat' (first | exact rfl | exact trivial | exact sim_refl _ | refine And.intro ?_ ?_))) (by (repeat' (first | exact rfl | exact trivial | exact sim_refl _ | refine And.intro ?_ ?_))) (by (repeat' (first | exact rfl | exact trivial | exact sim_refl _ | refine And.intro ?_ ?_))) (by (repeat' (first | exact rfl | exact trivial | exact sim_refl _ | refine And.intro ?_ ?_))))
theorem rDn2_fn : Gives Tryz.prog 14 [.ptr 0 0, .ptr 1 0] [.obj (rdO R ep 0 sn fl cm tm .niliface (.sbuf 2 1 0 n)), .opq, .opq] (Is .tt [.obj (rdO R ep 0 sn fl cm tm .niliface (.sbuf 2 1 0 n)), .opq, .opq]) := by
  refine gives_x hXSu (fn := Tryz.f14) rfl rfl rfl rfl fun ρ w => ?_
  refine sx hXSu [] 400 rfl (by (simp [-List.getD_eq_getElem?_getD, -List.length_eq_zero_iff, conjP])) ?_
  refine sx hXSu [.T] 400 rfl (by (simp [-List.getD_eq_getElem?_getD, -List.length_eq_zero_iff, conjP, addOP])) ?_
  (exact ss_end hXSu [0, 1, 2] rfl rfl trivial rfl rfl rfl rfl (by (repeat' (first | exact rfl | exact trivial | exact sim_refl _ | refine And.intro ?_ ?_))) (by (repeat' (first | exact rfl | exact trivial | exact sim_refl _ | refine And.intro ?_ ?_))) (by (repeat' (first | exact rfl | exact trivial | exact sim_refl _ | refine And.intro ?_ ?_))) (by (repeat' (first | exact rfl | exact trivial | exact sim_refl _ | refine And.intro ?_ ?_))))
theorem rDn5_fn : Gives Tryz.prog 14 [.ptr 0 0, .ptr 1 0] [.obj (rdO R ep 0 sn fl cm tm (erO c) (.sbuf 2 1 0 n)), .opq, .opq] (Is .tt [.obj (rdO R ep 0 sn fl cm tm (erO c) (.sbuf 2 1 0 n)), .opq, .opq]) := by
  refine gives_x hXSu (fn := Tryz.f14) rfl rfl rfl rfl fun ρ w => ?_
  refine sx hXSu [] 400 rfl (by (simp [-List.getD_eq_getElem?_getD, -List.length_eq_zero_iff, conjP])) ?_
  refine sx hXSu [.T] 400 rfl (by (simp [-List.getD_eq_getElem?_getD, -List.length_eq_zero_iff, conjP, addOP])) ?_
  (exact ss_end hXSu [0, 1, 2] rfl rfl trivial rfl rfl rfl rfl (by (repeat' (first | exact rfl | exact trivial | exact sim_refl _ | refine And.intro ?_ ?_))) (by (repeat' (first | exact rfl | exact trivial | exact sim_refl _ | refine And.intro ?_ ?_))) (by (repeat' (first | exact rfl | exact trivial | exact sim_refl _ | refine And.intro ?_ ?_))) (by (repeat' (first | exact rfl | exact trivial | exact sim_refl _ | refine And.intro ?_ ?_))))
end
/-- A write's step, of a run, or of one that is done (8: without an error, 9: with one), or of none. -/
def wStH (κ : Nat) (r : WR) : Hx.Spec := fun args H => match args with
  | [.nilptr, .ptr ha 0] => some ([∃ o, getH H ha = some o], .tt, H)
  | [.ptr h 0, .ptr ha 0] => match κ with
    | 8 => match wrA H h with
      | some (R, ep, nx, sn, fl, cm, tm, e, hl, l, i, b, ob1) => match nodupN [h, ha, hl] with
        | true => some ((nx = 0) :: (e = .niliface) :: (∃ o, getH H ha = some o) :: ob1, .tt, H)
        | false => none
      | none => none
    | 9 => match wrA H h with
      | some (R, ep, nx, sn, fl, cm, tm, e, hl, l, i, b, ob1) => match nodupN [h, ha, hl] with
        | true => some ((nx = 0) :: (∃ c, e = erO c) :: (∃ o, getH H ha = some o) :: ob1, .tt, H)
        | false => none
      | none => none
    | _ => wStG κ r [.ptr h 0, .ptr ha 0] H
  | _ => none
theorem setN_self : ∀ {H : List HE} {h : Nat} {e : HE}, H[h]? = some e → setN H h e = H
  | [], _, _, h => by simp at h
  | x :: r, 0, e, h => by simp at h; subst h; rfl
  | x :: r, n + 1, e, h => by simp only [setN]; rw [setN_self (H := r) (by simpa using h)]
theorem wStH_ok {κ : Nat} {r : WR} {args : List SV} {H : List HE} {ob : List Prop} {V : SV} {L : List HE} (hs : wStH κ r args H = some (ob, V, L)) (ho : AllP ob) : Gives Tryz.prog 13 args H (Is V L) := by
  unfold wStH at hs
  split at hs
  · rename_i ha
    simp only [Option.some.injEq, Prod.mk.injEq] at hs
    obtain ⟨rfl, rfl, rfl⟩ := hs
    obtain ⟨o, q⟩ := ho _ (List.mem_cons_self ..)
    exact gfB ⟨_, hTE⟩ wNil_fn [ha] [.keep] rfl rfl rfl rfl ⟨⟨_, getH_some.1 q⟩, trivial⟩ ⟨there_of_obj (getH_some.1 q), trivial⟩ (by (repeat' (first | exact rfl | exact trivial | exact sim_refl _ | refine And.intro ?_ ?_))) (by (repeat' (first | exact rfl | exact trivial | exact sim_refl _ | refine And.intro ?_ ?_))) rfl (by rw [mergeB, appL_eq]; exact (List.append_nil _).trans rfl)
  · rename_i h ha
    split at hs
    · split at hs
      case h_2 => simp at hs
      rename_i _ R ep nx sn fl cm tm e hl l i b ob1 hq
      split at hs
      case h_2 => simp at hs
      rename_i hnd
      simp only [Option.some.injEq, Prod.mk.injEq] at hs
      obtain ⟨rfl, rfl, rfl⟩ := hs
      simp only [AllP, List.mem_cons, forall_eq_or_imp] at ho
      obtain ⟨q1, q2, ⟨o, q3⟩, hr⟩ := ho
      subst q1; subst q2
      obtain ⟨g1, g2⟩ := wrA_get hq hr
      exact gfB ⟨_, hTE⟩ (wDn0_fn (R := R) (ep := ep) (sn := sn) (fl := fl) (cm := cm) (tm := tm) (i := i) (n := l.length) (hd := b)) [h, ha, hl] [.new, .keep, .keep] rfl rfl rfl hnd ⟨⟨_, getH_some.1 g1⟩, ⟨_, getH_some.1 q3⟩, ⟨_, getH_some.1 g2⟩, trivial⟩
        ⟨by (simp only [subE]; rw [show sig [h, ha, hl] H.length 0 = h from rfl, g1]; exact (show simO (wrO R ep 0 sn fl cm tm .niliface hl l.length i b) (wrO R ep 0 sn fl cm tm .niliface hl l.length i b) from simO_refl _)), there_of_obj (getH_some.1 q3), there_of_obj (getH_some.1 g2), trivial⟩ (by (repeat' (first | exact rfl | exact trivial | exact sim_refl _ | refine And.intro ?_ ?_))) (by (repeat' (first | exact rfl | exact trivial | exact sim_refl _ | refine And.intro ?_ ?_))) rfl (by rw [mergeB, appL_eq]; refine (List.append_nil _).trans ?_; exact setN_self (getH_some.1 g1))
    · split at hs
      case h_2 => simp at hs
      rename_i _ R ep nx sn fl cm tm e hl l i b ob1 hq
      split at hs
      case h_2 => simp at hs
      rename_i hnd
      simp only [Option.some.injEq, Prod.mk.injEq] at hs
      obtain ⟨rfl, rfl, rfl⟩ := hs
      simp only [AllP, List.mem_cons, forall_eq_or_imp] at ho
      obtain ⟨q1, ⟨c, q2⟩, ⟨o, q3⟩, hr⟩ := ho
      subst q1; subst q2
      obtain ⟨g1, g2⟩ := wrA_get hq hr
      exact gfB ⟨_, hTE⟩ (wDn1_fn (R := R) (ep := ep) (sn := sn) (fl := fl) (cm := cm) (tm := tm) (i := i) (c := c) (n := l.length) (hd := b)) [h, ha, hl] [.new, .keep, .keep] rfl rfl rfl hnd ⟨⟨_, getH_some.1 g1⟩, ⟨_, getH_some.1 q3⟩, ⟨_, getH_some.1 g2⟩, trivial⟩
        ⟨by (simp only [subE]; rw [show sig [h, ha, hl] H.length 0 = h from rfl, g1]; exact (show simO (wrO R ep 0 sn fl cm tm (erO c) hl l.length i b) (wrO R ep 0 sn fl cm tm (erO c) hl l.length i b) from simO_refl _)), there_of_obj (getH_some.1 q3), there_of_obj (getH_some.1 g2), trivial⟩ (by (repeat' (first | exact rfl | exact trivial | exact sim_refl _ | refine And.intro ?_ ?_))) (by (repeat' (first | exact rfl | exact trivial | exact sim_refl _ | refine And.intro ?_ ?_))) rfl (by rw [mergeB, appL_eq]; refine (List.append_nil _).trans ?_; exact setN_self (getH_some.1 g1))
    · exact wStG_ok hs ho
  · simp at hs
/-- A read's step, of a run, or of one that is done (8: without an error, 9: with one, 10: with one and no words), or of none. -/
def rStH (κ : Nat) (r : RR) : Hx.Spec := fun args H => match args with
  | [.nilptr, .ptr ha 0] => some ([∃ o, getH H ha = some o], .tt, H)
  | [.ptr h 0, .ptr ha 0] => match κ with
    | 8 => match rdA H h with
      | some (R, ep, nx, sn, fl, cm, tm, e, .sbuf hl 1 0 n, ob1) => match nodupN [h, ha, hl] with
        | true => some ((nx = 0) :: (e = .niliface) :: (∃ o, getH H ha = some o) :: (∃ o, getH H hl = some o) :: ob1, .tt, H)
        | false => none
      | _ => none
    | 9 => match rdA H h with
      | some (R, ep, nx, sn, fl, cm, tm, e, .sbuf hl 1 0 n, ob1) => match nodupN [h, ha, hl] with
        | true => some ((nx = 0) :: (∃ c, e = erO c) :: (∃ o, getH H ha = some o) :: (∃ o, getH H hl = some o) :: ob1, .tt, H)
        | false => none
      | _ => none
    | 10 => match rdA H h with
      | some (R, ep, nx, sn, fl, cm, tm, e, .nilslice, ob1) => match nodupN [h, ha] with
        | true => some ((nx = 0) :: (∃ c, e = erO c) :: (∃ o, getH H ha = some o) :: ob1, .tt, H)
        | false => none
      | _ => none
    | _ => rStG κ r [.ptr h 0, .ptr ha 0] H
  | _ => none
theorem rStH_ok {κ : Nat} {r : RR} {args : List SV} {H : List HE} {ob : List Prop} {V : SV} {L : List HE} (hs : rStH κ r args H = some (ob, V, L)) (ho : AllP ob) : Gives Tryz.prog 14 args H (Is V L) := by
  unfold rStH at hs
  split at hs
  · rename_i ha
    simp only [Option.some.injEq, Prod.mk.injEq] at hs
    obtain ⟨rfl, rfl, rfl⟩ := hs
    obtain ⟨o, q⟩ := ho _ (List.mem_cons_self ..)
    exact gfB ⟨_, hTE⟩ rNil_fn [ha] [.keep] rfl rfl rfl rfl ⟨⟨_, getH_some.1 q⟩, trivial⟩ ⟨there_of_obj (getH_some.1 q), trivial⟩ (by (repeat' (first | exact rfl | exact trivial | exact sim_refl _ | refine And.intro ?_ ?_))) (by (repeat' (first | exact rfl | exact trivial | exact sim_refl _ | refine And.intro ?_ ?_))) rfl (by rw [mergeB, appL_eq]; exact (List.append_nil _).trans rfl)
  · rename_i h ha
    split at hs
    · split at hs
      case h_2 => simp at hs
      rename_i _ R ep nx sn fl cm tm e hl n ob1 hq
      split at hs
      case h_2 => simp at hs
      rename_i hnd
      simp only [Option.some.injEq, Prod.mk.injEq] at hs
      obtain ⟨rfl, rfl, rfl⟩ := hs
      simp only [AllP, List.mem_cons, forall_eq_or_imp] at ho
      obtain ⟨q1, q2, ⟨o, q3⟩, ⟨o2, q4⟩, hr⟩ := ho
      subst q1; subst q2
      have g1 := rdA_get hq hr
      exact gfB ⟨_, hTE⟩ (rDn2_fn (R := R) (ep := ep) (sn := sn) (fl := fl) (cm := cm) (tm := tm) (n := n)) [h, ha, hl] [.new, .keep, .keep] rfl rfl rfl hnd ⟨⟨_, getH_some.1 g1⟩, ⟨_, getH_some.1 q3⟩, ⟨_, getH_some.1 q4⟩, trivial⟩
        ⟨by (simp only [subE]; rw [show sig [h, ha, hl] H.length 0 = h from rfl, g1]; exact (show simO (rdO R ep 0 sn fl cm tm .niliface (.sbuf hl 1 0 n)) (rdO R ep 0 sn fl cm tm .niliface (.sbuf hl 1 0 n)) from simO_refl _)), there_of_obj (getH_some.1 q3), there_of_obj (getH_some.1 q4), trivial⟩ (by (repeat' (first | exact rfl | exact trivial | exact sim_refl _ | refine And.intro ?_ ?_))) (by (repeat' (first | exact rfl | exact trivial | exact sim_refl _ | refine And.intro ?_ ?_))) rfl (by rw [mergeB, appL_eq]; refine (List.append_nil _).trans ?_; exact setN_self (getH_some.1 g1))
    · split at hs
      case h_2 => simp at hs
      rename_i _ R ep nx sn fl cm tm e hl n ob1 hq
      split at hs
      case h_2 => simp at hs
      rename_i hnd
      simp only [Option.some.injEq, Prod.mk.injEq] at hs
      obtain ⟨rfl, rfl, rfl⟩ := hs
      simp only [AllP, List.mem_cons, forall_eq_or_imp] at ho
      obtain ⟨q1, ⟨c, q2⟩, ⟨o, q3⟩, ⟨o2, q4⟩, hr⟩ := ho
      subst q1; subst q2
      have g1 := rdA_get hq hr
      exact gfB ⟨_, hTE⟩ (rDn5_fn (R := R) (ep := ep) (sn := sn) (fl := fl) (cm := cm) (tm := tm) (c := c) (n := n)) [h, ha, hl] [.new, .keep, .keep] rfl rfl rfl hnd ⟨⟨_, getH_some.1 g1⟩, ⟨_, getH_some.1 q3⟩, ⟨_, getH_some.1 q4⟩, trivial⟩
        ⟨by (simp only [subE]; rw [show sig [h, ha, hl] H.length 0 = h from rfl, g1]; exact (show simO (rdO R ep 0 sn fl cm tm (erO c) (.sbuf hl 1 0 n)) (rdO R ep 0 sn fl cm tm (erO c) (.sbuf hl 1 0 n)) from simO_refl _)), there_of_obj (getH_some.1 q3), there_of_obj (getH_some.1 q4), trivial⟩ (by (repeat' (first | exact rfl | exact trivial | exact sim_refl _ | refine And.intro ?_ ?_))) (by (repeat' (first | exact rfl | exact trivial | exact sim_refl _ | refine And.intro ?_ ?_))) rfl (by rw [mergeB, appL_eq]; refine (List.append_nil _).trans ?_; exact setN_self (getH_some.1 g1))
    · split at hs
      case h_2 => simp at hs
      rename_i _ R ep nx sn fl cm tm e ob1 hq
      split at hs
      case h_2 => simp at hs
      rename_i hnd
      simp only [Option.some.injEq, Prod.mk.injEq] at hs
      obtain ⟨rfl, rfl, rfl⟩ := hs
      simp only [AllP, List.mem_cons, forall_eq_or_imp] at ho
      obtain ⟨q1, ⟨c, q2⟩, ⟨o, q3⟩, hr⟩ := ho
      subst q1; subst q2
      have g1 := rdA_get hq hr
      exact gfB ⟨_, hTE⟩ (rDn1_fn (R := R) (ep := ep) (sn := sn) (fl := fl) (cm := cm) (tm := tm) (c := c)) [h, ha] [.new, .keep] rfl rfl rfl hnd ⟨⟨_, getH_some.1 g1⟩, ⟨_, getH_some.1 q3⟩, trivial⟩
        ⟨by (simp only [subE]; rw [show sig [h, ha] H.length 0 = h from rfl, g1]; exact (show simO (rdO R ep 0 sn fl cm tm (erO c) .nilslice) (rdO R ep 0 sn fl cm tm (erO c) .nilslice) from simO_refl _)), there_of_obj (getH_some.1 q3), trivial⟩ (by (repeat' (first | exact rfl | exact trivial | exact sim_refl _ | refine And.intro ?_ ?_))) (by (repeat' (first | exact rfl | exact trivial | exact sim_refl _ | refine And.intro ?_ ?_))) rfl (by rw [mergeB, appL_eq]; refine (List.append_nil _).trans ?_; exact setN_self (getH_some.1 g1))
    · exact rStG_ok hs ho
  · simp at hs
section
variable {R : Int} {s : WS}
theorem hNil_fn : Gives Tryz.prog 16 [.nilptr] [] (Is (.bool false) []) := by
  refine gives_x hXSu (fn := Tryz.f16) rfl rfl rfl rfl fun ρ w => ?_
  refine sx hXSu [] 400 rfl (by (simp [-List.getD_eq_getElem?_getD, -List.length_eq_zero_iff, conjP])) ?_
  (exact ss_end hXSu [] rfl rfl trivial rfl rfl rfl rfl (by (repeat' (first | exact rfl | exact trivial | exact sim_refl _ | refine And.intro ?_ ?_))) (by (repeat' (first | exact rfl | exact trivial | exact sim_refl _ | refine And.intro ?_ ?_))) (by (repeat' (first | exact rfl | exact trivial | exact sim_refl _ | refine And.intro ?_ ?_))) (by (repeat' (first | exact rfl | exact trivial | exact sim_refl _ | refine And.intro ?_ ?_))))
theorem hRun_fn : Gives Tryz.prog 16 [.ptr 0 0] [.obj (wrO R s.ep s.nx s.sn s.fl 0 s.tm .niliface 1 s.l.length s.i s.hd), .opq] (Is (.bool s.hd) [.obj (wrO R s.ep s.nx s.sn s.fl 0 s.tm .niliface 1 s.l.length s.i s.hd), .opq]) := by
  rcases e : s.hd with _ | _
  · refine gives_x hXSu (fn := Tryz.f16) rfl rfl rfl rfl fun ρ w => ?_
    refine sx hXSu [] 400 rfl (by (simp [-List.getD_eq_getElem?_getD, -List.length_eq_zero_iff, conjP])) ?_
    (exact ss_end hXSu [0, 1] rfl rfl trivial rfl rfl rfl rfl (by (repeat' (first | exact rfl | exact trivial | exact sim_refl _ | refine And.intro ?_ ?_))) (by (repeat' (first | exact rfl | exact trivial | exact sim_refl _ | refine And.intro ?_ ?_))) (by (repeat' (first | exact rfl | exact trivial | exact sim_refl _ | refine And.intro ?_ ?_))) (by (repeat' (first | exact rfl | exact trivial | exact sim_refl _ | refine And.intro ?_ ?_))))
  · refine gives_x hXSu (fn := Tryz.f16) rfl rfl rfl rfl fun ρ w => ?_
    refine sx hXSu [] 400 rfl (by (simp [-List.getD_eq_getElem?_getD, -List.length_eq_zero_iff, conjP])) ?_
    (exact ss_end hXSu [0, 1] rfl rfl trivial rfl rfl rfl rfl (by (repeat' (first | exact rfl | exact trivial | exact sim_refl _ | refine And.intro ?_ ?_))) (by (repeat' (first | exact rfl | exact trivial | exact sim_refl _ | refine And.intro ?_ ?_))) (by (repeat' (first | exact rfl | exact trivial | exact sim_refl _ | refine And.intro ?_ ?_))) (by (repeat' (first | exact rfl | exact trivial | exact sim_refl _ | refine And.intro ?_ ?_))))
end
/-- Does a writer hold the topic? -/
def holdS (R : Int) (o : Option WS) (d : Nat) : Hx.Spec := fun args H => match args with
  | [p] => some ([p = wrP o d, H[d]? = some (wrE R o (d + 1)), H[d + 1]? = some (wlE o)], .bool (hdO o), H)
  | _ => none
theorem holdS_ok {R : Int} {o : Option WS} {d : Nat} {args : List SV} {H : List HE} {ob : List Prop} {V : SV} {L : List HE} (hs : holdS R o d args H = some (ob, V, L)) (ho : AllP ob) : Gives Tryz.prog 16 args H (Is V L) := by
  unfold holdS at hs
  split at hs
  · simp only [Option.some.injEq, Prod.mk.injEq] at hs
    obtain ⟨rfl, rfl, rfl⟩ := hs
    simp only [AllP, List.mem_cons, List.not_mem_nil, or_false, forall_eq_or_imp, forall_eq] at ho
    obtain ⟨rfl, q1, q2⟩ := ho
    rcases o with _ | s
    · have := frame0 (H := H) ⟨_, hTE⟩ hNil_fn rfl rfl
      simp only [List.map_nil, List.append_nil] at this
      exact this
    · have hnd : nodupN [d, d + 1] = true := by
        simp only [nodupN, memN]
        have : Nat.beq d (d + 1) = false := by
          cases hh : Nat.beq d (d + 1) with
          | false => rfl
          | true => have := Nat.eq_of_beq_eq_true hh; omega
        simp [this]
      exact gfB ⟨_, hTE⟩ (hRun_fn (R := R) (s := s)) [d, d + 1] [.new, .keep] rfl rfl rfl hnd ⟨⟨_, q1⟩, ⟨_, q2⟩, trivial⟩
        ⟨by (simp only [subE]; rw [show sig [d, d + 1] H.length 0 = d from rfl, getH_some.2 q1]; exact (show simO (wrO R s.ep s.nx s.sn s.fl 0 s.tm .niliface (d + 1) s.l.length s.i s.hd) (wrO R s.ep s.nx s.sn s.fl 0 s.tm .niliface (d + 1) s.l.length s.i s.hd) from simO_refl _)), there_of_obj q2, trivial⟩ (by (repeat' (first | exact rfl | exact trivial | exact sim_refl _ | refine And.intro ?_ ?_))) (by (repeat' (first | exact rfl | exact trivial | exact sim_refl _ | refine And.intro ?_ ?_))) rfl (by rw [mergeB, appL_eq]; refine (List.append_nil _).trans ?_; exact setN_self q1)
  · simp at hs
end Go.Proofs.YtmghcelohnlceaaGreatDoor
