/- PoolApart: what is looked at behind a turn -/
import Derived.Test.YtmghcelohnlceaaApartWin
namespace Go.Proofs.Ytmghcelohnlceaa
open Go Go.Hx
set_option maxRecDepth 8000
def ctCk (A B : Int) (L0 L1 : List Int) : Nat → Option Hx.Spec
  | 17 => some (arWordsS)
  | 16 => some (rfreeS A B L0 L1)
  | 12 => some (hasS2)
  | _ => none
theorem ctCk_ok (A B : Int) (L0 L1 : List Int) : ∀ f s args H ob V L, ctCk A B L0 L1 f = some s → s args H = some (ob, V, L) → AllP ob → Gives Try.prog f args H (Is V L) := by
  intro f s args H ob V L h hs ho
  unfold ctCk at h
  split at h
  · simp at h; subst h; exact arWordsS_ok hs ho
  · simp at h; subst h; exact rfreeS_ok hs ho
  · simp at h; subst h; exact hasS2_ok hs ho
  · simp at h
noncomputable def Xck (A B : Int) (L0 L1 : List Int) : Tabs := tabs tr ft xt (fun _ => none) (ctCk A B L0 L1) 0
theorem hXck (A B : Int) (L0 L1 : List Int) : TOk Try.prog (Xck A B L0 L1) := ⟨hTE, hFT, (ctCk_ok A B L0 L1), hXT, fun t ks h => by simp [Xck, tabs] at h, mixed⟩
def ctCu (A B : Int) (L0 L1 : List Int) : Nat → Option Hx.Spec
  | 17 => some (arWordsS)
  | 16 => some (rfreeS A B L0 L1)
  | 12 => some (hasS2)
  | _ => none
theorem ctCu_ok (A B : Int) (L0 L1 : List Int) : ∀ f s args H ob V L, ctCu A B L0 L1 f = some s → s args H = some (ob, V, L) → AllP ob → Gives Try.prog f args H (Is V L) := by
  intro f s args H ob V L h hs ho
  unfold ctCu at h
  split at h
  · simp at h; subst h; exact arWordsS_ok hs ho
  · simp at h; subst h; exact rfreeS_ok hs ho
  · simp at h; subst h; exact hasS2_ok hs ho
  · simp at h
noncomputable def Xcu (A B : Int) (L0 L1 : List Int) : Tabs := tabs tr ft xt (fun _ => none) (ctCu A B L0 L1) 20
theorem hXcu (A B : Int) (L0 L1 : List Int) : TOk Try.prog (Xcu A B L0 L1) := ⟨hTE, hFT, (ctCu_ok A B L0 L1), hXT, fun t ks h => by simp [Xcu, tabs] at h, mixed⟩
section
variable {n cap : Nat} {o : Nat → ActP} {A B : Int} {L0 L1 : List Int} {i : Nat} {c0 c1 c2 c3 : Pk} {ρ : Nat → Nat × Nat} {w : World} {I : Act → World → Prop} {x : SP} {p : Nat → VV} {G : List Int}
set_option maxHeartbeats 16000000 in
theorem ck_has (hi : i < 200) (hn : 0 ≤ A ∧ A ≤ 5) (hb : 0 ≤ B ∧ B ≤ 5) {al : List Int} (hal : al.length = (A + B).toNat) (hnd : al.Nodup) (back : ∀ cs T H, Sub (FEnv Try.prog (Xap A B true true).TE (hXap A B true true).te Try.f3 Try.f3.ntmps [.obj (.rows n 3 (actRow o))] (Is .tt [.obj (.rows n 3 (actRow o))]) ρ w) T H (spT (.slice 0 0 n cap) (i + 1)) (ckH n o A B x c0 c1 c2 c3 p G .absent) → SS (hXap A B true true) (At ρ w) (Is .tt [.obj (.rows n 3 (actRow o))]) ⟨cs, [], Try.f3, Try.f3.ntmps, [.obj (.rows n 3 (actRow o))], .lp I :: dnLp (flatS (contF Try.f3 11 [I])), T, H⟩) : SS (hXck A B L0 L1) (At ρ w) (Is .tt [.obj (.rows n 3 (actRow o))]) ⟨[], [], Try.f3, Try.f3.ntmps, [.obj (.rows n 3 (actRow o))], flatS (contF Try.f3 42 [I]), ckT (.slice 0 0 n cap) i (allV (some al) 18), ckH n o A B x c0 c1 c2 c3 p G (allE (some al))⟩ := by
  have hXk := hXck A B L0 L1
  have ewi : IntKind.i64.wrap ((i : Int) + 1) = ((i + 1 : Nat) : Int) := by rw [wi64 (by omega) (by omega)]; omega
  refine sxb hXk [.l] [] 4000 rfl (by first | exact trivial | simp [conjP]) ?_
  refine ss_sub hXk (T' := ckTq (.slice 0 0 n cap) i (allV (some al) 18) 0) (H' := ckH n o A B x c0 c1 c2 c3 p G (allE (some al))) [0, 1, 2, 3, 4, 5, 6, 7, 8, 9, 10, 11, 12, 13, 14, 15, 16, 17, 18] rfl rfl rfl rfl (by (repeat' (first | exact rfl | exact trivial | exact sim_refl _ | refine And.intro ?_ ?_))) (by (((repeat' (first | exact rfl | exact trivial | exact sim_refl _ | exact subE_same rfl ren_slE | exact subE_r rfl ren_slE ren_slE | exact subE_phE rfl rfl | exact sim_slV rfl | exact sim_slVr rfl | exact sim_slV3 rfl | exact sim_tkP rfl | exact sim_gvP rfl | exact sim_tkP3 rfl | exact sim_gvP3 rfl | (simp; done) | (unfold lst; simp; done) | refine And.intro ?_ ?_)); done))) (by (repeat' (first | exact rfl | exact trivial | exact sim_refl _ | refine And.intro ?_ ?_))) (by (((repeat' (first | exact rfl | exact trivial | exact okE_slE | exact okE_phE rfl | exact okP_slV rfl | exact okP_tkP rfl | exact okP_gvP rfl | refine And.intro ?_ ?_)); done))) ?_
  refine ss_loop hXk (fun j => ckTq (.slice 0 0 n cap) i (allV (some al) 18) j) (fun _ => ckH n o A B x c0 c1 c2 c3 p G (allE (some al))) (fun j => j ≤ al.length) (fun j => al.length - j) 0 (Nat.zero_le _) ?_
  rintro j hj I' back'
  have ewj : IntKind.i64.wrap ((j : Int) + 1) = ((j + 1 : Nat) : Int) := by rw [wi64 (by omega) (by omega)]; omega
  have hln : al.length ≤ 10 := by omega
  by_cases hj1 : j < al.length
  · have hj2 : (j : Int) < (al.length : Int) := by omega
    have hj3 : (j : Int) ≤ (al.length : Int) := by omega
    have hj4 : j ≤ al.length := by omega
    have hh := nodup_has hnd hj1
    dsimp only [ckT, ckTj, ckTq, ckH, allV, allE]
    refine sx hXk [] 4000 rfl (by (simp [-List.getD_eq_getElem?_getD, -List.length_eq_zero_iff, conjP] <;> (first | omega | ((repeat' (refine And.intro ?_ ?_)) <;> (first | omega | exact decide_eq_false (by omega) | exact decide_eq_true (by omega)))))) ?_
    refine sx hXk [.T] 4000 rfl (by (simp [-List.getD_eq_getElem?_getD, -List.length_eq_zero_iff, conjP, hj1, hj2, hj3, hj4, cellOff] <;> (first | omega | ((repeat' (refine And.intro ?_ ?_)) <;> (first | omega | exact decide_eq_false (by omega) | exact decide_eq_true (by omega)))))) ?_
    refine sx hXk [.F] 4000 rfl (by (simp [-List.getD_eq_getElem?_getD, -List.length_eq_zero_iff, conjP, addOP, hh, cellOff] <;> (first | omega | ((repeat' (refine And.intro ?_ ?_)) <;> (first | omega | exact decide_eq_false (by omega) | exact decide_eq_true (by omega)))))) ?_
    (refine' back' (j + 1) (by omega) (by omega) _ _ _ (sub_of [0, 1, 2, 3, 4, 5, 6, 7, 8, 9, 10, 11, 12, 13, 14, 15, 16, 17, 18] rfl rfl rfl rfl ?tt ?hh (by (repeat' (first | exact rfl | exact trivial | exact sim_refl _ | refine And.intro ?_ ?_))) ?ok); (case tt => exact ⟨by (repeat' (first | exact rfl | exact trivial | exact sim_refl _ | refine And.intro ?_ ?_)), by (repeat' (first | exact rfl | exact trivial | exact sim_refl _ | refine And.intro ?_ ?_)), by (repeat' (first | exact rfl | exact trivial | exact sim_refl _ | refine And.intro ?_ ?_)), by (repeat' (first | exact rfl | exact trivial | exact sim_refl _ | refine And.intro ?_ ?_)), by (repeat' (first | exact rfl | exact trivial | exact sim_refl _ | refine And.intro ?_ ?_)), by (repeat' (first | exact rfl | exact trivial | exact sim_refl _ | refine And.intro ?_ ?_)), by (repeat' (first | exact rfl | exact trivial | exact sim_refl _ | refine And.intro ?_ ?_)), by (repeat' (first | exact rfl | exact trivial | exact sim_refl _ | refine And.intro ?_ ?_)), ⟨rfl, ewj⟩, trivial⟩); (case hh => (((repeat' (first | exact rfl | exact trivial | exact sim_refl _ | exact subE_same rfl ren_slE | exact subE_r rfl ren_slE ren_slE | exact subE_phE rfl rfl | exact sim_slV rfl | exact sim_slVr rfl | exact sim_slV3 rfl | exact sim_tkP rfl | exact sim_gvP rfl | exact sim_tkP3 rfl | exact sim_gvP3 rfl | (simp; done) | (unfold lst; simp; done) | refine And.intro ?_ ?_)); done))); (case ok => (((repeat' (first | exact rfl | exact trivial | exact okE_slE | exact okE_phE rfl | exact okP_slV rfl | exact okP_tkP rfl | exact okP_gvP rfl | refine And.intro ?_ ?_)); done))))
  · have hj2 : ¬ (j : Int) < (al.length : Int) := by omega
    dsimp only [ckT, ckTj, ckTq, ckH, allV, allE]
    refine sxb hXk [.l] [] 4000 rfl (by (simp [-List.getD_eq_getElem?_getD, -List.length_eq_zero_iff, conjP] <;> (first | omega | ((repeat' (refine And.intro ?_ ?_)) <;> (first | omega | exact decide_eq_false (by omega) | exact decide_eq_true (by omega)))))) ?_
    refine sxb hXk [.l] [.F] 4000 rfl (by (simp [-List.getD_eq_getElem?_getD, -List.length_eq_zero_iff, conjP, addOP, hj2] <;> (first | omega | ((repeat' (refine And.intro ?_ ?_)) <;> (first | omega | exact decide_eq_false (by omega) | exact decide_eq_true (by omega)))))) ?_
    (refine ss_sw hXk (sw_ss (hXap A B true true) (cs := []) ?_); refine' back _ _ _ (sub_of [0, 1, 2, 3, 4, 5, 6, 7, 8, 9, 10, 11, 12, 13, 14, 15, 16, 17, 90] rfl rfl rfl rfl ?tt ?hh (by (repeat' (first | exact rfl | exact trivial | exact sim_refl _ | refine And.intro ?_ ?_))) ?ok); (case tt => exact ⟨by (repeat' (first | exact rfl | exact trivial | exact sim_refl _ | refine And.intro ?_ ?_)), by (repeat' (first | exact rfl | exact trivial | exact sim_refl _ | refine And.intro ?_ ?_)), by (repeat' (first | exact rfl | exact trivial | exact sim_refl _ | refine And.intro ?_ ?_)), by (repeat' (first | exact rfl | exact trivial | exact sim_refl _ | refine And.intro ?_ ?_)), by (repeat' (first | exact rfl | exact trivial | exact sim_refl _ | refine And.intro ?_ ?_)), by (repeat' (first | exact rfl | exact trivial | exact sim_refl _ | refine And.intro ?_ ?_)), ⟨rfl, ewi⟩, trivial⟩); (case hh => (((repeat' (first | exact rfl | exact trivial | exact sim_refl _ | exact subE_same rfl ren_slE | exact subE_r rfl ren_slE ren_slE | exact subE_phE rfl rfl | exact sim_slV rfl | exact sim_slVr rfl | exact sim_slV3 rfl | exact sim_tkP rfl | exact sim_gvP rfl | exact sim_tkP3 rfl | exact sim_gvP3 rfl | (simp; done) | (unfold lst; simp; done) | refine And.intro ?_ ?_)); done))); (case ok => (((repeat' (first | exact rfl | exact trivial | exact okE_slE | exact okE_phE rfl | exact okP_slV rfl | exact okP_tkP rfl | exact okP_gvP rfl | refine And.intro ?_ ?_)); done))))
set_option maxHeartbeats 16000000 in
theorem ck_len {al : List Int} (hi : i < 200) (hn : 0 ≤ A ∧ A ≤ 5) (hb : 0 ≤ B ∧ B ≤ 5) (hal : al.length = (A + B).toNat) (hnd : al.Nodup) (back : ∀ cs T H, Sub (FEnv Try.prog (Xap A B true true).TE (hXap A B true true).te Try.f3 Try.f3.ntmps [.obj (.rows n 3 (actRow o))] (Is .tt [.obj (.rows n 3 (actRow o))]) ρ w) T H (spT (.slice 0 0 n cap) (i + 1)) (ckH n o A B x c0 c1 c2 c3 p G .absent) → SS (hXap A B true true) (At ρ w) (Is .tt [.obj (.rows n 3 (actRow o))]) ⟨cs, [], Try.f3, Try.f3.ntmps, [.obj (.rows n 3 (actRow o))], .lp I :: dnLp (flatS (contF Try.f3 11 [I])), T, H⟩) : SS (hXck A B L0 L1) (At ρ w) (Is .tt [.obj (.rows n 3 (actRow o))]) ⟨[], [], Try.f3, Try.f3.ntmps, [.obj (.rows n 3 (actRow o))], flatS (contF Try.f3 40 [I]), ckT (.slice 0 0 n cap) i (allV (some al) 18), ckH n o A B x c0 c1 c2 c3 p G (allE (some al))⟩ := by
  have hXk := hXck A B L0 L1
  have hAB : IntKind.i64.wrap (A + B) = A + B := wi64 (by omega) (by omega)
  have hal' : (al.length : Int) = A + B := by omega
  dsimp only [ckT, ckTj, ckTq, ckH, allV, allE]
  refine sxb hXk [.r 42] [] 4000 rfl (by (simp [-List.getD_eq_getElem?_getD, -List.length_eq_zero_iff, conjP] <;> (first | omega | ((repeat' (refine And.intro ?_ ?_)) <;> (first | omega | exact decide_eq_false (by omega) | exact decide_eq_true (by omega)))))) ?_
  refine sxb hXk [.r 42] [.F] 4000 rfl (by (simp [-List.getD_eq_getElem?_getD, -List.length_eq_zero_iff, conjP, addOP, hAB, hal'] <;> (first | omega | ((repeat' (refine And.intro ?_ ?_)) <;> (first | omega | exact decide_eq_false (by omega) | exact decide_eq_true (by omega)))))) ?_
  (refine ss_sub hXk (T' := ckT (.slice 0 0 n cap) i (allV (some al) 18)) (H' := ckH n o A B x c0 c1 c2 c3 p G (allE (some al))) [0, 1, 2, 3, 4, 5, 6, 7, 8, 9, 10, 11, 12, 13, 14, 15, 16, 17, 18] rfl rfl rfl rfl (by (repeat' (first | exact rfl | exact trivial | exact sim_refl _ | refine And.intro ?_ ?_))) (by (((repeat' (first | exact rfl | exact trivial | exact sim_refl _ | exact subE_same rfl ren_slE | exact subE_r rfl ren_slE ren_slE | exact subE_phE rfl rfl | exact sim_slV rfl | exact sim_slVr rfl | exact sim_slV3 rfl | exact sim_tkP rfl | exact sim_gvP rfl | exact sim_tkP3 rfl | exact sim_gvP3 rfl | (simp; done) | (unfold lst; simp; done) | refine And.intro ?_ ?_)); done))) (by (repeat' (first | exact rfl | exact trivial | exact sim_refl _ | refine And.intro ?_ ?_))) (by (((repeat' (first | exact rfl | exact trivial | exact okE_slE | exact okE_phE rfl | exact okP_slV rfl | exact okP_tkP rfl | exact okP_gvP rfl | refine And.intro ?_ ?_)); done))) ?_; exact ck_has hi hn hb hal hnd back)
end
end Go.Proofs.Ytmghcelohnlceaa
