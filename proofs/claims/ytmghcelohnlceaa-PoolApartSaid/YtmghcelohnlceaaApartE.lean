/- Turns of one client: ap_idg2, ap_idg -/
import Derived.Test.YtmghcelohnlceaaApartHeap
namespace Go.Proofs.Ytmghcelohnlceaa
open Go Go.Hx
set_option maxRecDepth 8000
section
variable {n cap : Nat} {G : List Int} {o : Nat → ActP} {A B : Int} {i mi : Nat} {k : Nat → Pk} {L : Int → List Int} {ρ : Nat → Nat × Nat} {w : World} {I J0 : Act → World → Prop} {W : List Int} {st kd wd vl : Int} {ch : Bool} {p : VV} {own : Option (List Int)} {b1 b3 : Bool}
set_option maxHeartbeats 16000000 in
theorem ap_idg2 {l : List Int} {D : Nat} {p' : VV} (h : TurnH A B G n i mi k L W st) (hc : k mi = ⟨some l, .idle⟩) (hD : D < l.length) (J : JP A B true true n cap i mi o k ρ w J0 G ⟨W, st, kd, wd, vl, ch⟩ ⟨some l, .idle⟩ p) :
    SS (hXap A B true true) (At ρ w) Not2 ⟨[], [], Try.f3, Try.f3.ntmps, sqH n o A B G ⟨W, st, kd, wd, vl, ch⟩ ⟨some l, .idle⟩ p, preK 30 (flatS (contF Try.f3 17 [I])) ++ [.lp J0], sqT2 n cap i mi l.length, sqH2 n o A B ⟨some l, .idle⟩ G ⟨W, st, kd, wd, vl, ch⟩ ⟨some (l.take D ++ l.drop (D + 1)), .g1 (l.getD D 0) 0⟩ p' l⟩ := by
  obtain ⟨hr, hl, bd, ewi, hst1⟩ := h.facts
  have hst0 := h.s0
  have hst2 := h.s1
  have hin := h.hin
  have hi := h.hi
  have hG4 := h.g4
  have hm := h.hm
  have hm4 : (mi : Int) < 4 := by omega
  have hln := own_len h.inv h.hm (l := l) (by rw [hc]; rfl)
  have hnd := own_nodup h.inv h.hm
  rw [hc] at hnd
  have hnd : l.Nodup := hnd
  have hbx := h.inv.rng h.hm (b := (l.getD D 0)) (by rw [hc]; exact getD_mem hD)
  have hcx : 0 ≤ classV A B (l.getD D 0) ∧ classV A B (l.getD D 0) ≤ 1 := cls_bd hbx.1 hbx.2
  have hiv : InvQ A B (i + 1) W (kset k mi ⟨some (l.take D ++ l.drop (D + 1)), .g2 (l.getD D 0) (W.getD (3 + classV A B (l.getD D 0)).toNat 0)⟩) L := by have := q_g1 (q_bg (s := 0) (o := some (l.take D ++ l.drop (D + 1))) h.inv h.hm hc hD rfl) h.hm (kset_same _ _ _) rfl; rw [kset_kset] at this; exact this
  have hol : (l.take D ++ l.drop (D + 1)).length = l.length - 1 := by simp; omega
  have hXq := hXap A B true true
  refine sxb hXq [.l] [] 4000 rfl (by first | exact trivial | simp [conjP]) ?_
  refine ss_sub hXq (T' := sqT3 n cap i mi l.length 0) (H' := sqH2 n o A B ⟨some l, .idle⟩ (if D < 0 then G.set mi (l.getD D 0) else G) ⟨W, st, kd, wd, vl, ch⟩ ⟨some (l.take D ++ l.drop (D + 1)), .g1 (l.getD D 0) 0⟩ p' l) [0, 1, 2, 3, 4, 5, 6, 7, 8, 9, 10, 11] rfl rfl rfl rfl (by (repeat' (first | exact rfl | exact trivial | exact sim_refl _ | refine And.intro ?_ ?_))) ?hh (by (repeat' (first | exact rfl | exact trivial | exact sim_refl _ | refine And.intro ?_ ?_))) (by (((repeat' (first | exact rfl | exact trivial | exact okE_slE | exact okE_phE rfl | exact okP_slV rfl | exact okP_tkP (A := 0) (B := 0) rfl | exact okP_gvP (A := 0) (B := 0) rfl | refine And.intro ?_ ?_)); done))) ?_
  case hh => rw [if_neg (by omega)]; (((repeat' (first | exact rfl | exact trivial | exact sim_refl _ | exact subE_same rfl ren_slE | exact subE_phE rfl rfl | exact sim_slV rfl | exact sim_tkP rfl | exact sim_gvP rfl | assumption | (simp; done) | (unfold lst; simp; done) | (simp; omega) | (unfold lst; simp; omega) | refine And.intro ?_ ?_)); done))
  refine ss_loop hXq (fun j => sqT3 n cap i mi l.length j) (fun j => sqH2 n o A B ⟨some l, .idle⟩ (if D < j then G.set mi (l.getD D 0) else G) ⟨W, st, kd, wd, vl, ch⟩ ⟨some (l.take D ++ l.drop (D + 1)), .g1 (l.getD D 0) 0⟩ p' l) (fun j => j ≤ l.length) (fun j => l.length - j) 0 (Nat.zero_le _) ?_
  rintro j hj I' back
  have ewj : IntKind.i64.wrap ((j : Int) + 1) = ((j + 1 : Nat) : Int) := by rw [wi64 (by omega) (by omega)]; omega
  by_cases hj1 : j < l.length
  · have hj2 : (j : Int) < (l.length : Int) := by omega
    have hjl : l.getD j 0 ∈ l := getD_mem hj1
    by_cases hjD : j = D
    · subst hjD
      have hh : hasL (l.take j ++ l.drop (j + 1)) (l.getD j 0) = false := nodup_other hnd hj1
      rw [if_neg (Nat.lt_irrefl _)]
      dsimp only [sqT3, sqH2, HE.dim, tkP, gvP, phE, phO, tkO, gvO, slV, slE]
      refine sx hXq [] 4000 rfl (by (simp [-List.getD_eq_getElem?_getD, -List.length_eq_zero_iff, conjP] <;> (first | omega | ((repeat' (refine And.intro ?_ ?_)) <;> (first | omega | exact decide_eq_false (by omega) | exact decide_eq_true (by omega)))))) ?_
      refine sx hXq [.T] 4000 rfl (by (simp [-List.getD_eq_getElem?_getD, -List.length_eq_zero_iff, conjP, hj1, hj2, hol, cellOff] <;> (first | omega | ((repeat' (refine And.intro ?_ ?_)) <;> (first | omega | exact decide_eq_false (by omega) | exact decide_eq_true (by omega)))))) ?_
      refine sx hXq [.T] 4000 rfl (by (simp [-List.getD_eq_getElem?_getD, -List.length_eq_zero_iff, conjP, hj1, hj2, hh, hG4, hm4, cellOff] <;> (first | omega | ((repeat' (refine And.intro ?_ ?_)) <;> (first | omega | exact decide_eq_false (by omega) | exact decide_eq_true (by omega)))))) ?_
      ((simp only [Int.toNat_natCast, Nat.add_zero]); refine' back (j + 1) (by omega) (by omega) _ _ _ (sub_of [0, 1, 2, 3, 4, 5, 6, 7, 8, 9, 10, 11] rfl rfl rfl rfl ?tt ?hh (by (repeat' (first | exact rfl | exact trivial | exact sim_refl _ | refine And.intro ?_ ?_))) ?ok); (case tt => exact ⟨by (repeat' (first | exact rfl | exact trivial | exact sim_refl _ | refine And.intro ?_ ?_)), by (repeat' (first | exact rfl | exact trivial | exact sim_refl _ | refine And.intro ?_ ?_)), by (repeat' (first | exact rfl | exact trivial | exact sim_refl _ | refine And.intro ?_ ?_)), by (repeat' (first | exact rfl | exact trivial | exact sim_refl _ | refine And.intro ?_ ?_)), by (repeat' (first | exact rfl | exact trivial | exact sim_refl _ | refine And.intro ?_ ?_)), by (repeat' (first | exact rfl | exact trivial | exact sim_refl _ | refine And.intro ?_ ?_)), by (repeat' (first | exact rfl | exact trivial | exact sim_refl _ | refine And.intro ?_ ?_)), by (repeat' (first | exact rfl | exact trivial | exact sim_refl _ | refine And.intro ?_ ?_)), by (repeat' (first | exact rfl | exact trivial | exact sim_refl _ | refine And.intro ?_ ?_)), by (repeat' (first | exact rfl | exact trivial | exact sim_refl _ | refine And.intro ?_ ?_)), ⟨rfl, ewj⟩, trivial⟩); (case hh => rw [if_pos (Nat.lt_succ_self _)]; (((repeat' (first | exact rfl | exact trivial | exact sim_refl _ | exact subE_same rfl ren_slE | exact subE_phE rfl rfl | exact sim_slV rfl | exact sim_tkP rfl | exact sim_gvP rfl | assumption | (simp; done) | (unfold lst; simp; done) | (simp; omega) | (unfold lst; simp; omega) | refine And.intro ?_ ?_)); done))); (case ok => (((repeat' (first | exact rfl | exact trivial | exact okE_slE | exact okE_phE rfl | exact okP_slV rfl | exact okP_tkP (A := 0) (B := 0) rfl | exact okP_gvP (A := 0) (B := 0) rfl | refine And.intro ?_ ?_)); done))))
    · have hh : hasL (l.take D ++ l.drop (D + 1)) (l.getD j 0) = true := nodup_same hnd hj1 hD hjD
      have e : (if D < j + 1 then G.set mi (l.getD D 0) else G) = (if D < j then G.set mi (l.getD D 0) else G) := by
        by_cases q : D < j
        · rw [if_pos q, if_pos (by omega)]
        · rw [if_neg q, if_neg (by omega)]
      have back' := back (j + 1) (by omega) (by omega)
      rw [e] at back'
      generalize (if D < j then G.set mi (l.getD D 0) else G) = G2 at back' ⊢
      dsimp only [sqT3, sqH2, HE.dim, tkP, gvP, phE, phO, tkO, gvO, slV, slE]
      refine sx hXq [] 4000 rfl (by (simp [-List.getD_eq_getElem?_getD, -List.length_eq_zero_iff, conjP] <;> (first | omega | ((repeat' (refine And.intro ?_ ?_)) <;> (first | omega | exact decide_eq_false (by omega) | exact decide_eq_true (by omega)))))) ?_
      refine sx hXq [.T] 4000 rfl (by (simp [-List.getD_eq_getElem?_getD, -List.length_eq_zero_iff, conjP, hj1, hj2, hol, cellOff] <;> (first | omega | ((repeat' (refine And.intro ?_ ?_)) <;> (first | omega | exact decide_eq_false (by omega) | exact decide_eq_true (by omega)))))) ?_
      refine sx hXq [.F] 4000 rfl (by (simp [-List.getD_eq_getElem?_getD, -List.length_eq_zero_iff, conjP, addOP, hh, cellOff] <;> (first | omega | ((repeat' (refine And.intro ?_ ?_)) <;> (first | omega | exact decide_eq_false (by omega) | exact decide_eq_true (by omega)))))) ?_
      (refine' back' _ _ _ (sub_of [0, 1, 2, 3, 4, 5, 6, 7, 8, 9, 10, 11] rfl rfl rfl rfl ?tt ?hh (by (repeat' (first | exact rfl | exact trivial | exact sim_refl _ | refine And.intro ?_ ?_))) ?ok); (case tt => exact ⟨by (repeat' (first | exact rfl | exact trivial | exact sim_refl _ | refine And.intro ?_ ?_)), by (repeat' (first | exact rfl | exact trivial | exact sim_refl _ | refine And.intro ?_ ?_)), by (repeat' (first | exact rfl | exact trivial | exact sim_refl _ | refine And.intro ?_ ?_)), by (repeat' (first | exact rfl | exact trivial | exact sim_refl _ | refine And.intro ?_ ?_)), by (repeat' (first | exact rfl | exact trivial | exact sim_refl _ | refine And.intro ?_ ?_)), by (repeat' (first | exact rfl | exact trivial | exact sim_refl _ | refine And.intro ?_ ?_)), by (repeat' (first | exact rfl | exact trivial | exact sim_refl _ | refine And.intro ?_ ?_)), by (repeat' (first | exact rfl | exact trivial | exact sim_refl _ | refine And.intro ?_ ?_)), by (repeat' (first | exact rfl | exact trivial | exact sim_refl _ | refine And.intro ?_ ?_)), by (repeat' (first | exact rfl | exact trivial | exact sim_refl _ | refine And.intro ?_ ?_)), ⟨rfl, ewj⟩, trivial⟩); (case hh => (((repeat' (first | exact rfl | exact trivial | exact sim_refl _ | exact subE_same rfl ren_slE | exact subE_phE rfl rfl | exact sim_slV rfl | exact sim_tkP rfl | exact sim_gvP rfl | assumption | (simp; done) | (unfold lst; simp; done) | (simp; omega) | (unfold lst; simp; omega) | refine And.intro ?_ ?_)); done))); (case ok => (((repeat' (first | exact rfl | exact trivial | exact okE_slE | exact okE_phE rfl | exact okP_slV rfl | exact okP_tkP (A := 0) (B := 0) rfl | exact okP_gvP (A := 0) (B := 0) rfl | refine And.intro ?_ ?_)); done))))
  · have hj2 : ¬ (j : Int) < (l.length : Int) := by omega
    rw [if_pos (show D < j by omega)]
    dsimp only [sqT3, sqH2, HE.dim, tkP, gvP, phE, phO, tkO, gvO, slV, slE]
    refine sxb hXq [.l] [] 4000 rfl (by (simp [-List.getD_eq_getElem?_getD, -List.length_eq_zero_iff, conjP] <;> (first | omega | ((repeat' (refine And.intro ?_ ?_)) <;> (first | omega | exact decide_eq_false (by omega) | exact decide_eq_true (by omega)))))) ?_
    refine sxb hXq [.l] [.F] 4000 rfl (by (simp [-List.getD_eq_getElem?_getD, -List.length_eq_zero_iff, conjP, hr, hl, hst0, hst1, bd, hj2, hbx, gvO, phO] <;> (first | omega | ((repeat' (refine And.intro ?_ ?_)) <;> (first | omega | exact decide_eq_false (by omega) | exact decide_eq_true (by omega)))))) ?_
    (refine ss_raw hXq 6 3 rfl rfl fun v3 => ?_; refine ss_raw hXq 6 4 rfl rfl fun v4 => ?_; refine' J ⟨⟨_, st + 1, _, _, _, _⟩, ⟨some (l.take D ++ l.drop (D + 1)), .g2 (l.getD D 0) (W.getD (3 + classV A B (l.getD D 0)).toNat 0)⟩, (v3, v4), G.set mi (l.getD D 0)⟩ ⟨⟨?s0, ?s1⟩, rfl, ?iv⟩ _ _ _ (sub_ofD (sigP 2) rfl rfl rfl rfl rfl ?ht ?hh (by (repeat' (first | exact rfl | exact trivial | exact sim_refl _ | refine And.intro ?_ ?_))) ?ok); (case ht => exact ⟨by (repeat' (first | exact rfl | exact trivial | exact sim_refl _ | refine And.intro ?_ ?_)), by (repeat' (first | exact rfl | exact trivial | exact sim_refl _ | refine And.intro ?_ ?_)), by (repeat' (first | exact rfl | exact trivial | exact sim_refl _ | refine And.intro ?_ ?_)), by (repeat' (first | exact rfl | exact trivial | exact sim_refl _ | refine And.intro ?_ ?_)), by (repeat' (first | exact rfl | exact trivial | exact sim_refl _ | refine And.intro ?_ ?_)), by (repeat' (first | exact rfl | exact trivial | exact sim_refl _ | refine And.intro ?_ ?_)), by (repeat' (first | exact rfl | exact trivial | exact sim_refl _ | refine And.intro ?_ ?_)), trivial⟩); (case hh => (((repeat' (first | exact rfl | exact trivial | exact sim_refl _ | exact subE_same rfl ren_slE | exact subE_phE rfl rfl | exact sim_slV rfl | exact sim_tkP rfl | exact sim_gvP rfl | assumption | (simp; done) | (unfold lst; simp; done) | (simp; omega) | (unfold lst; simp; omega) | refine And.intro ?_ ?_)); done))); (case ok => (((repeat' (first | exact rfl | exact trivial | exact okE_slE | exact okE_phE rfl | exact okP_slV rfl | exact okP_tkP (A := 0) (B := 0) rfl | exact okP_gvP (A := 0) (B := 0) rfl | refine And.intro ?_ ?_)); done))); (case iv => exact ⟨L, hiv⟩); (case s0 => simp only; omega); (case s1 => simp only; omega))

set_option maxHeartbeats 16000000 in
theorem ap_idg (h : TurnH A B G n i mi k L W st)  (hc : k mi = ⟨own, .idle⟩) (hgv : (o i).give = true) (hl0 : 0 < (lst own).length) (J : JP A B true true n cap i mi o k ρ w J0 G ⟨W, st, kd, wd, vl, ch⟩ ⟨own, .idle⟩ p) : GP A B true true n cap i mi o ρ w I J0 G ⟨W, st, kd, wd, vl, ch⟩ ⟨own, .idle⟩ p := by
  obtain ⟨hr, hl, bd, ewi, hst1⟩ := h.facts
  have hst0 := h.s0
  have hst2 := h.s1
  have hin := h.hin
  have hi := h.hi
  have hp := h.inv.ph mi h.hm
  rw [hc] at hp
  have hG4 := h.g4
  have hm4 : (mi : Int) < 4 := by have := h.hm; omega
  have hm := h.hm
  have hG : G = G.set mi (gb (.idle)) := by have e := h.gm; rw [hc] at e; dsimp only at e; rw [← e]; exact set_same.symm
  rcases own with _ | l
  · simp [lst] at hl0
  have hln := own_len h.inv h.hm (l := l) (by rw [hc]; rfl)
  have hlp : 0 < l.length := hl0
  have hd := cModB l.length (o i).which (by omega) (by omega)
  have hdn : (cMod l.length (o i).which).toNat < l.length := by omega
  have hbx := h.inv.rng h.hm (b := l.getD (cMod l.length (o i).which).toNat 0) (by rw [hc]; exact getD_mem hdn)
  have hab := h.inv.a1
  have hbb := h.inv.b1
  have hbs : -9223372036854775808 ≤ l.getD (cMod l.length (o i).which).toNat 0 ∧ l.getD (cMod l.length (o i).which).toNat 0 < 9223372036854775808 := by omega
  have hcx : 0 ≤ classV A B (l.getD (cMod l.length (o i).which).toNat 0) ∧ classV A B (l.getD (cMod l.length (o i).which).toNat 0) ≤ 1 := cls_bd hbx.1 hbx.2
  have hwd : IntKind.i64.wrap (cMod l.length (o i).which + 1) = cMod l.length (o i).which + 1 := wi64 (by omega) (by omega)
  have hXq := hXap A B true true
  unfold GP
  unfold cMod at hd hdn hbx hbs hcx hwd
  dsimp only [sqT, sqH, tkP, gvP, phE, phO, tkO, gvO]
  refine sxb hXq [.r 17] [] 4000 rfl (by (simp [-List.getD_eq_getElem?_getD, -List.length_eq_zero_iff, conjP] <;> (first | omega | ((repeat' (refine And.intro ?_ ?_)) <;> (first | omega | exact decide_eq_false (by omega) | exact decide_eq_true (by omega)))))) ?_
  refine sxb hXq [.r 17] [.T, .T, .F, .F, .F] 4000 rfl (by (simp [-List.getD_eq_getElem?_getD, -List.length_eq_zero_iff, conjP, getH, HE.so, hr, hin, hlp, hd, hdn, hbs, hcx, hwd, hgv, classF, mulS_eq, cellOff] <;> (first | omega | ((repeat' (refine And.intro ?_ ?_)) <;> (first | omega | exact decide_eq_false (by omega) | exact decide_eq_true (by omega)))))) ?_
  ((obtain ⟨D, hD, hDl⟩ : ∃ D : Nat, (IntKind.i64.wrap ((o i).which.tmod l.length + l.length)).tmod l.length = (D : Int) ∧ D < l.length := ⟨_, (Int.toNat_of_nonneg hd.1).symm, hdn⟩); (have hwD : IntKind.i64.wrap ((D : Int) + 1) = ((D + 1 : Nat) : Int) := by rw [wi64 (by omega) (by omega)]; omega); (have ht : List.take (l.length - (D + 1)) (List.drop (D + 1) l) = List.drop (D + 1) l := List.take_of_length_le (by simp)); (simp only [Int.toNat_natCast, hD, hwD, classF, mulS_eq, Nat.mul_one, Int.toNat_zero, List.take_zero, List.drop_zero, List.nil_append, Nat.sub_zero, Nat.zero_add, List.take_length, ht]); refine ss_raw hXq 6 3 rfl rfl fun v3 => ?_; refine ss_raw hXq 6 4 rfl rfl fun v4 => ?_; refine ss_sub hXq (T' := sqT2 n cap i mi l.length) (H' := sqH2 n o A B ⟨some l, .idle⟩ G ⟨W, st, kd, wd, vl, ch⟩ ⟨some (l.take D ++ l.drop (D + 1)), .g1 (l.getD D 0) 0⟩ (v3, v4) l) [0, 1, 2, 3, 4, 5, 6, 7, 8, 15, 17, 10] rfl rfl rfl rfl ?tt ?hh (by (((repeat' (first | exact rfl | exact trivial | exact okE_slE | exact okE_phE rfl | exact okP_slV rfl | exact okP_tkP (A := 0) (B := 0) rfl | exact okP_gvP (A := 0) (B := 0) rfl | refine And.intro ?_ ?_)); done))) ?ok ?_; (case tt => (((repeat' (first | exact rfl | exact trivial | exact sim_refl _ | exact subE_same rfl ren_slE | exact subE_phE rfl rfl | exact sim_slV rfl | exact sim_tkP rfl | exact sim_gvP rfl | assumption | (simp; done) | (unfold lst; simp; done) | (simp; omega) | (unfold lst; simp; omega) | refine And.intro ?_ ?_)); done))); (case hh => (((repeat' (first | exact rfl | exact trivial | exact sim_refl _ | exact subE_same rfl ren_slE | exact subE_phE rfl rfl | exact sim_slV rfl | exact sim_tkP rfl | exact sim_gvP rfl | assumption | (simp; done) | (unfold lst; simp; done) | (simp; omega) | (unfold lst; simp; omega) | refine And.intro ?_ ?_)); done))); (case ok => (((repeat' (first | exact rfl | exact trivial | exact okE_slE | exact okE_phE rfl | exact okP_slV rfl | exact okP_tkP (A := 0) (B := 0) rfl | exact okP_gvP (A := 0) (B := 0) rfl | refine And.intro ?_ ?_)); done))); exact ap_idg2 h hc hDl J)
end
end Go.Proofs.Ytmghcelohnlceaa
