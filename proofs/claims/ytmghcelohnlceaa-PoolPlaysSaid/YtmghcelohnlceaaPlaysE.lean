/- Turns of one client: pl_idg -/
import Derived.Test.YtmghcelohnlceaaPlaysHeap
namespace Go.Proofs.Ytmghcelohnlceaa
open Go Go.Hx
set_option maxRecDepth 8000
section
variable {n cap : Nat} {o : Nat → ActP} {A B : Int} {i mi : Nat} {k : Nat → Pk} {L : Int → List Int} {ρ : Nat → Nat × Nat} {w : World} {I J0 : Act → World → Prop} {W : List Int} {st kd wd vl : Int} {ch : Bool} {p : VV} {own : Option (List Int)} {b1 b3 : Bool}
set_option maxHeartbeats 16000000 in
theorem pl_idg (h : TurnH A B n i mi k L W st)  (hc : k mi = ⟨own, .idle⟩) (hgv : (o i).give = true) (hl0 : 0 < (lst own).length) (J : JP A B true true n cap i mi o k ρ w J0 ⟨W, st, kd, wd, vl, ch⟩ ⟨own, .idle⟩ p) : GP A B true true n cap i o ρ w I J0 ⟨W, st, kd, wd, vl, ch⟩ ⟨own, .idle⟩ p := by
  obtain ⟨hr, hl, bd, ewi, hst1⟩ := h.facts
  have hst0 := h.s0
  have hst2 := h.s1
  have hin := h.hin
  have hi := h.hi
  have hp := h.inv.ph mi h.hm
  rw [hc] at hp
  rcases own with _ | l
  · simp [lst] at hl0
  have hln := own_len h.inv h.hm (l := l) (by rw [hc]; rfl)
  have hlp : 0 < l.length := hl0
  have hd := cModB l.length (o i).which (by omega) (by omega)
  have hdn : (cMod l.length (o i).which).toNat < l.length := by omega
  have hbx := h.inv.rng h.hm (b := l.getD (cMod l.length (o i).which).toNat 0) (by rw [hc]; exact getD_mem hdn)
  have hab := h.inv.a1
  have hbb := h.inv.b1
  have hbs : -9223372036854775808 ≤ l.getD (cMod l.length (o i).which).toNat 0 ∧ l.getD (cMod l.length (o i).which).toNat 0 < 9223372036854775808 := by omega
  have hcx : 0 ≤ classV A B (l.getD (cMod l.length (o i).which).toNat 0) ∧ classV A B (l.getD (cMod l.length (o i).which).toNat 0) ≤ 1 := cls_bd hbx.1 hbx.2
  have hwd : IntKind.i64.wrap (cMod l.length (o i).which + 1) = cMod l.length (o i).which + 1 := wi64 (by omega) (by omega)
  have hXq := hXpl A B true true
  unfold GP
  unfold cMod at hd hdn hbx hbs hcx hwd
  dsimp only [sqT, sqH, tkP, gvP, phE, phO, tkO, gvO, rtP, rgP, rphE, rphO, rtkO, rgvO]
  have hiv : ∀ D, D < l.length → InvQ A B (i + 1) W (kset k mi ⟨some (l.take D ++ l.drop (D + 1)), .g2 (l.getD D 0) (W.getD (3 + classV A B (l.getD D 0)).toNat 0)⟩) L := fun D hD => by have := q_g1 (q_bg (s := 0) (o := some (l.take D ++ l.drop (D + 1))) h.inv h.hm hc hD rfl) h.hm (kset_same _ _ _) rfl; rw [kset_kset] at this; exact this
  refine sxb hXq [.l] [] 4000 rfl (by (simp [-List.getD_eq_getElem?_getD, -List.length_eq_zero_iff, conjP] <;> (first | omega | ((repeat' (refine And.intro ?_ ?_)) <;> (first | omega | exact decide_eq_false (by omega) | exact decide_eq_true (by omega)))))) ?_
  refine sxb hXq [.l] [.T, .T, .F, .F, .F] 4000 rfl (by (simp [-List.getD_eq_getElem?_getD, -List.length_eq_zero_iff, conjP, getH, HE.so, hr, hl, hst0, hst1, bd, hin, hlp, hd, hdn, hbx, hbs, hcx, hwd, hgv, classF, gvO, phO, rgvO, rphO, mulS_eq, cellOff] <;> (first | omega | ((repeat' (refine And.intro ?_ ?_)) <;> (first | omega | exact decide_eq_false (by omega) | exact decide_eq_true (by omega)))))) ?_
  refine sxb hXq [.l] [.F] 4000 rfl (by (simp [-List.getD_eq_getElem?_getD, -List.length_eq_zero_iff, conjP, addOP] <;> (first | omega | ((repeat' (refine And.intro ?_ ?_)) <;> (first | omega | exact decide_eq_false (by omega) | exact decide_eq_true (by omega)))))) ?_
  refine sxb hXq [.l] [.F] 4000 rfl (by (simp [-List.getD_eq_getElem?_getD, -List.length_eq_zero_iff, conjP, addOP] <;> (first | omega | ((repeat' (refine And.intro ?_ ?_)) <;> (first | omega | exact decide_eq_false (by omega) | exact decide_eq_true (by omega)))))) ?_
  refine sxb hXq [.l] [.K, .F] 4000 rfl (by (simp [-List.getD_eq_getElem?_getD, -List.length_eq_zero_iff, conjP, getH, HE.so, cellOff] <;> (first | omega | ((repeat' (refine And.intro ?_ ?_)) <;> (first | omega | exact decide_eq_false (by omega) | exact decide_eq_true (by omega)))))) ?_
  refine sxb hXq [.l] [.F] 4000 rfl (by (simp [-List.getD_eq_getElem?_getD, -List.length_eq_zero_iff, conjP, addOP] <;> (first | omega | ((repeat' (refine And.intro ?_ ?_)) <;> (first | omega | exact decide_eq_false (by omega) | exact decide_eq_true (by omega)))))) ?_
  ((obtain ⟨D, hD, hDl⟩ : ∃ D : Nat, (IntKind.i64.wrap ((o i).which.tmod l.length + l.length)).tmod l.length = (D : Int) ∧ D < l.length := ⟨_, (Int.toNat_of_nonneg hd.1).symm, hdn⟩); (have hwD : IntKind.i64.wrap ((D : Int) + 1) = ((D + 1 : Nat) : Int) := by rw [wi64 (by omega) (by omega)]; omega); (have ht : List.take (l.length - (D + 1)) (List.drop (D + 1) l) = List.drop (D + 1) l := List.take_of_length_le (by simp)); (simp only [Int.toNat_natCast, hD, hwD, mulS_eq, Nat.mul_one, Int.toNat_zero, List.take_zero, List.drop_zero, List.nil_append, Nat.sub_zero, Nat.zero_add, ht]); (refine ss_raw hXq 7 3 rfl rfl fun v3 => ?_; refine' J ⟨⟨_, st + 1, _, _, _, _⟩, ⟨some (l.take D ++ l.drop (D + 1)), .g2 (l.getD D 0) (W.getD (3 + classV A B (l.getD D 0)).toNat 0)⟩, (v3, p.2)⟩ ⟨⟨?s0, ?s1⟩, ?iv⟩ _ _ _ (sub_ofD (sigP 2) rfl rfl rfl rfl rfl ?ht ?hh (by (repeat' (first | exact rfl | exact trivial | exact sim_refl _ | refine And.intro ?_ ?_))) ?ok); (case ht => exact ⟨by (repeat' (first | exact rfl | exact trivial | exact sim_refl _ | refine And.intro ?_ ?_)), by (repeat' (first | exact rfl | exact trivial | exact sim_refl _ | refine And.intro ?_ ?_)), by (repeat' (first | exact rfl | exact trivial | exact sim_refl _ | refine And.intro ?_ ?_)), by (repeat' (first | exact rfl | exact trivial | exact sim_refl _ | refine And.intro ?_ ?_)), by (repeat' (first | exact rfl | exact trivial | exact sim_refl _ | refine And.intro ?_ ?_)), by (repeat' (first | exact rfl | exact trivial | exact sim_refl _ | refine And.intro ?_ ?_)), ⟨rfl, ewi⟩, trivial⟩); (case hh => (((repeat' (first | exact rfl | exact trivial | exact sim_refl _ | exact subE_same rfl ren_slE | exact subE_phE rfl rfl | exact subE_same rfl ren_rphE | exact sim_rtP rfl | exact sim_rgP rfl | exact sim_slV rfl | exact sim_tkP rfl | exact sim_gvP rfl | assumption | (simp; done) | (unfold lst; simp; done) | (simp; omega) | (unfold lst; simp; omega) | refine And.intro ?_ ?_)); done))); (case ok => (((repeat' (first | exact rfl | exact trivial | exact okE_slE | exact okE_phE rfl | exact okE_rphE | exact okP_rtP (A := 0) (B := 0) rfl | exact okP_rgP (A := 0) (B := 0) rfl | exact okP_slV rfl | exact okP_tkP (A := 0) (B := 0) rfl | exact okP_gvP (A := 0) (B := 0) rfl | refine And.intro ?_ ?_)); done))); (case iv => exact ⟨L, hiv D hDl⟩); (case s0 => simp only; omega); (case s1 => simp only; omega)))
end
end Go.Proofs.Ytmghcelohnlceaa
