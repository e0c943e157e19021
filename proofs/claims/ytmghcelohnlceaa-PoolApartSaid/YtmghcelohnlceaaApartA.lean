/- Turns of one client: ap_t1y, ap_t1n, ap_t2, ap_g1 -/
import Derived.Test.YtmghcelohnlceaaApartHeap
namespace Go.Proofs.Ytmghcelohnlceaa
open Go Go.Hx
set_option maxRecDepth 8000
section
variable {n cap : Nat} {G : List Int} {o : Nat → ActP} {A B : Int} {i mi : Nat} {k : Nat → Pk} {L : Int → List Int} {ρ : Nat → Nat × Nat} {w : World} {I J0 : Act → World → Prop} {W : List Int} {st kd wd vl : Int} {ch : Bool} {p : VV} {own : Option (List Int)} {b1 b3 : Bool}
set_option maxHeartbeats 16000000 in
theorem ap_t1y (h : TurnH A B G n i mi k L W st) {c s b f : Int} (hc : k mi = ⟨own, .t1 c s b f⟩) (hcl : classV A B (W.getD (3 + c).toNat 0 % 4294967296) = c) (J : JP A B true true n cap i mi o k ρ w J0 G ⟨W, st, kd, wd, vl, ch⟩ ⟨own, .t1 c s b f⟩ p) : GP A B true true n cap i mi o ρ w I J0 G ⟨W, st, kd, wd, vl, ch⟩ ⟨own, .t1 c s b f⟩ p := by
  obtain ⟨hr, hl, bd, ewi, hst1⟩ := h.facts
  have hst0 := h.s0
  have hst2 := h.s1
  have hin := h.hin
  have hi := h.hi
  have hp := h.inv.ph mi h.hm
  rw [hc] at hp
  have hG4 := h.g4
  have hm4 : (mi : Int) < 4 := by have := h.hm; omega
  have hm := h.hm
  have hG : G = G.set mi (gb (.t1 c s b f)) := by have e := h.gm; rw [hc] at e; dsimp only at e; rw [← e]; exact set_same.symm
  have hc0 : 0 ≤ c ∧ c ≤ 1 := hp
  have hXq := hXap A B true true
  unfold GP
  rcases own with _ | l
  · dsimp only [sqT, sqH, tkP, gvP, phE, phO, tkO, gvO]
    refine sxb hXq [.l] [] 4000 rfl (by (simp [-List.getD_eq_getElem?_getD, -List.length_eq_zero_iff, conjP, hr, hl, hst0, hst1, bd, hin, hc0, hcl, tkO, phO] <;> (first | omega | ((repeat' (refine And.intro ?_ ?_)) <;> (first | omega | exact decide_eq_false (by omega) | exact decide_eq_true (by omega)))))) ?_
    (refine ss_raw hXq 6 3 rfl rfl fun v3 => ?_; refine ss_raw hXq 6 4 rfl rfl fun v4 => ?_; refine' J ⟨⟨_, st + 1, _, _, _, _⟩, ⟨none, .t2 c (W.getD (3 + c).toNat 0) (W.getD (3 + c).toNat 0 % 4294967296) f⟩, (v3, v4), G⟩ ⟨⟨?s0, ?s1⟩, hG, ?iv⟩ _ _ _ (sub_ofD (sigP 1) rfl rfl rfl rfl rfl ?ht ?hh (by (repeat' (first | exact rfl | exact trivial | exact sim_refl _ | refine And.intro ?_ ?_))) ?ok); (case ht => exact ⟨by (repeat' (first | exact rfl | exact trivial | exact sim_refl _ | refine And.intro ?_ ?_)), by (repeat' (first | exact rfl | exact trivial | exact sim_refl _ | refine And.intro ?_ ?_)), by (repeat' (first | exact rfl | exact trivial | exact sim_refl _ | refine And.intro ?_ ?_)), by (repeat' (first | exact rfl | exact trivial | exact sim_refl _ | refine And.intro ?_ ?_)), by (repeat' (first | exact rfl | exact trivial | exact sim_refl _ | refine And.intro ?_ ?_)), by (repeat' (first | exact rfl | exact trivial | exact sim_refl _ | refine And.intro ?_ ?_)), by (repeat' (first | exact rfl | exact trivial | exact sim_refl _ | refine And.intro ?_ ?_)), trivial⟩); (case hh => (((repeat' (first | exact rfl | exact trivial | exact sim_refl _ | exact subE_same rfl ren_slE | exact subE_phE rfl rfl | exact sim_slV rfl | exact sim_tkP rfl | exact sim_gvP rfl | assumption | (simp; done) | (unfold lst; simp; done) | (simp; omega) | (unfold lst; simp; omega) | refine And.intro ?_ ?_)); done))); (case ok => (((repeat' (first | exact rfl | exact trivial | exact okE_slE | exact okE_phE rfl | exact okP_slV rfl | exact okP_tkP (A := 0) (B := 0) rfl | exact okP_gvP (A := 0) (B := 0) rfl | refine And.intro ?_ ?_)); done))); (case iv => exact ⟨L, q_t1y h.inv h.hm hc rfl hcl⟩); (case s0 => simp only; omega); (case s1 => simp only; omega))
  · have hln := own_len h.inv h.hm (l := l) (by rw [hc]; rfl)
    dsimp only [sqT, sqH, tkP, gvP, phE, phO, tkO, gvO]
    refine sxb hXq [.l] [] 4000 rfl (by (simp [-List.getD_eq_getElem?_getD, -List.length_eq_zero_iff, conjP, hr, hl, hst0, hst1, bd, hin, hc0, hcl, tkO, phO] <;> (first | omega | ((repeat' (refine And.intro ?_ ?_)) <;> (first | omega | exact decide_eq_false (by omega) | exact decide_eq_true (by omega)))))) ?_
    (refine ss_raw hXq 6 3 rfl rfl fun v3 => ?_; refine ss_raw hXq 6 4 rfl rfl fun v4 => ?_; refine' J ⟨⟨_, st + 1, _, _, _, _⟩, ⟨some l, .t2 c (W.getD (3 + c).toNat 0) (W.getD (3 + c).toNat 0 % 4294967296) f⟩, (v3, v4), G⟩ ⟨⟨?s0, ?s1⟩, hG, ?iv⟩ _ _ _ (sub_ofD (sigP 1) rfl rfl rfl rfl rfl ?ht ?hh (by (repeat' (first | exact rfl | exact trivial | exact sim_refl _ | refine And.intro ?_ ?_))) ?ok); (case ht => exact ⟨by (repeat' (first | exact rfl | exact trivial | exact sim_refl _ | refine And.intro ?_ ?_)), by (repeat' (first | exact rfl | exact trivial | exact sim_refl _ | refine And.intro ?_ ?_)), by (repeat' (first | exact rfl | exact trivial | exact sim_refl _ | refine And.intro ?_ ?_)), by (repeat' (first | exact rfl | exact trivial | exact sim_refl _ | refine And.intro ?_ ?_)), by (repeat' (first | exact rfl | exact trivial | exact sim_refl _ | refine And.intro ?_ ?_)), by (repeat' (first | exact rfl | exact trivial | exact sim_refl _ | refine And.intro ?_ ?_)), by (repeat' (first | exact rfl | exact trivial | exact sim_refl _ | refine And.intro ?_ ?_)), trivial⟩); (case hh => (((repeat' (first | exact rfl | exact trivial | exact sim_refl _ | exact subE_same rfl ren_slE | exact subE_phE rfl rfl | exact sim_slV rfl | exact sim_tkP rfl | exact sim_gvP rfl | assumption | (simp; done) | (unfold lst; simp; done) | (simp; omega) | (unfold lst; simp; omega) | refine And.intro ?_ ?_)); done))); (case ok => (((repeat' (first | exact rfl | exact trivial | exact okE_slE | exact okE_phE rfl | exact okP_slV rfl | exact okP_tkP (A := 0) (B := 0) rfl | exact okP_gvP (A := 0) (B := 0) rfl | refine And.intro ?_ ?_)); done))); (case iv => exact ⟨L, q_t1y h.inv h.hm hc rfl hcl⟩); (case s0 => simp only; omega); (case s1 => simp only; omega))
set_option maxHeartbeats 16000000 in
theorem ap_t1n (h : TurnH A B G n i mi k L W st) {c s b f : Int} (hc : k mi = ⟨own, .t1 c s b f⟩) (hcl : ¬ classV A B (W.getD (3 + c).toNat 0 % 4294967296) = c) (J : JP A B false true n cap i mi o k ρ w J0 G ⟨W, st, kd, wd, vl, ch⟩ ⟨own, .t1 c s b f⟩ p) : GP A B false true n cap i mi o ρ w I J0 G ⟨W, st, kd, wd, vl, ch⟩ ⟨own, .t1 c s b f⟩ p := by
  obtain ⟨hr, hl, bd, ewi, hst1⟩ := h.facts
  have hst0 := h.s0
  have hst2 := h.s1
  have hin := h.hin
  have hi := h.hi
  have hp := h.inv.ph mi h.hm
  rw [hc] at hp
  have hG4 := h.g4
  have hm4 : (mi : Int) < 4 := by have := h.hm; omega
  have hm := h.hm
  have hG : G = G.set mi (gb (.t1 c s b f)) := by have e := h.gm; rw [hc] at e; dsimp only at e; rw [← e]; exact set_same.symm
  have hc0 : 0 ≤ c ∧ c ≤ 1 := hp
  have hXq := hXap A B false true
  unfold GP
  rcases own with _ | l
  · dsimp only [sqT, sqH, tkP, gvP, phE, phO, tkO, gvO]
    refine sxb hXq [.l] [] 4000 rfl (by (simp [-List.getD_eq_getElem?_getD, -List.length_eq_zero_iff, conjP, hr, hl, hst0, hst1, bd, hin, hc0, hcl, tkO, phO] <;> (first | omega | ((repeat' (refine And.intro ?_ ?_)) <;> (first | omega | exact decide_eq_false (by omega) | exact decide_eq_true (by omega)))))) ?_
    refine sxb hXq [.l] [.F] 4000 rfl (by (simp [-List.getD_eq_getElem?_getD, -List.length_eq_zero_iff, conjP, addOP] <;> (first | omega | ((repeat' (refine And.intro ?_ ?_)) <;> (first | omega | exact decide_eq_false (by omega) | exact decide_eq_true (by omega)))))) ?_
    (refine ss_raw hXq 6 3 rfl rfl fun v3 => ?_; refine ss_raw hXq 6 4 rfl rfl fun v4 => ?_; refine' J ⟨⟨_, st + 1, _, _, _, _⟩, ⟨none, .idle⟩, (v3, v4), G⟩ ⟨⟨?s0, ?s1⟩, hG, ?iv⟩ _ _ _ (sub_ofD (sigP 0) rfl rfl rfl rfl rfl ?ht ?hh (by (repeat' (first | exact rfl | exact trivial | exact sim_refl _ | refine And.intro ?_ ?_))) ?ok); (case ht => exact ⟨by (repeat' (first | exact rfl | exact trivial | exact sim_refl _ | refine And.intro ?_ ?_)), by (repeat' (first | exact rfl | exact trivial | exact sim_refl _ | refine And.intro ?_ ?_)), by (repeat' (first | exact rfl | exact trivial | exact sim_refl _ | refine And.intro ?_ ?_)), by (repeat' (first | exact rfl | exact trivial | exact sim_refl _ | refine And.intro ?_ ?_)), by (repeat' (first | exact rfl | exact trivial | exact sim_refl _ | refine And.intro ?_ ?_)), by (repeat' (first | exact rfl | exact trivial | exact sim_refl _ | refine And.intro ?_ ?_)), by (repeat' (first | exact rfl | exact trivial | exact sim_refl _ | refine And.intro ?_ ?_)), trivial⟩); (case hh => (((repeat' (first | exact rfl | exact trivial | exact sim_refl _ | exact subE_same rfl ren_slE | exact subE_phE rfl rfl | exact sim_slV rfl | exact sim_tkP rfl | exact sim_gvP rfl | assumption | (simp; done) | (unfold lst; simp; done) | (simp; omega) | (unfold lst; simp; omega) | refine And.intro ?_ ?_)); done))); (case ok => (((repeat' (first | exact rfl | exact trivial | exact okE_slE | exact okE_phE rfl | exact okP_slV rfl | exact okP_tkP (A := 0) (B := 0) rfl | exact okP_gvP (A := 0) (B := 0) rfl | refine And.intro ?_ ?_)); done))); (case iv => exact ⟨L, q_t1n h.inv h.hm hc⟩); (case s0 => simp only; omega); (case s1 => simp only; omega))
  · have hln := own_len h.inv h.hm (l := l) (by rw [hc]; rfl)
    dsimp only [sqT, sqH, tkP, gvP, phE, phO, tkO, gvO]
    refine sxb hXq [.l] [] 4000 rfl (by (simp [-List.getD_eq_getElem?_getD, -List.length_eq_zero_iff, conjP, hr, hl, hst0, hst1, bd, hin, hc0, hcl, tkO, phO] <;> (first | omega | ((repeat' (refine And.intro ?_ ?_)) <;> (first | omega | exact decide_eq_false (by omega) | exact decide_eq_true (by omega)))))) ?_
    refine sxb hXq [.l] [.F] 4000 rfl (by (simp [-List.getD_eq_getElem?_getD, -List.length_eq_zero_iff, conjP, addOP] <;> (first | omega | ((repeat' (refine And.intro ?_ ?_)) <;> (first | omega | exact decide_eq_false (by omega) | exact decide_eq_true (by omega)))))) ?_
    (refine ss_raw hXq 6 3 rfl rfl fun v3 => ?_; refine ss_raw hXq 6 4 rfl rfl fun v4 => ?_; refine' J ⟨⟨_, st + 1, _, _, _, _⟩, ⟨some l, .idle⟩, (v3, v4), G⟩ ⟨⟨?s0, ?s1⟩, hG, ?iv⟩ _ _ _ (sub_ofD (sigP 0) rfl rfl rfl rfl rfl ?ht ?hh (by (repeat' (first | exact rfl | exact trivial | exact sim_refl _ | refine And.intro ?_ ?_))) ?ok); (case ht => exact ⟨by (repeat' (first | exact rfl | exact trivial | exact sim_refl _ | refine And.intro ?_ ?_)), by (repeat' (first | exact rfl | exact trivial | exact sim_refl _ | refine And.intro ?_ ?_)), by (repeat' (first | exact rfl | exact trivial | exact sim_refl _ | refine And.intro ?_ ?_)), by (repeat' (first | exact rfl | exact trivial | exact sim_refl _ | refine And.intro ?_ ?_)), by (repeat' (first | exact rfl | exact trivial | exact sim_refl _ | refine And.intro ?_ ?_)), by (repeat' (first | exact rfl | exact trivial | exact sim_refl _ | refine And.intro ?_ ?_)), by (repeat' (first | exact rfl | exact trivial | exact sim_refl _ | refine And.intro ?_ ?_)), trivial⟩); (case hh => (((repeat' (first | exact rfl | exact trivial | exact sim_refl _ | exact subE_same rfl ren_slE | exact subE_phE rfl rfl | exact sim_slV rfl | exact sim_tkP rfl | exact sim_gvP rfl | assumption | (simp; done) | (unfold lst; simp; done) | (simp; omega) | (unfold lst; simp; omega) | refine And.intro ?_ ?_)); done))); (case ok => (((repeat' (first | exact rfl | exact trivial | exact okE_slE | exact okE_phE rfl | exact okP_slV rfl | exact okP_tkP (A := 0) (B := 0) rfl | exact okP_gvP (A := 0) (B := 0) rfl | refine And.intro ?_ ?_)); done))); (case iv => exact ⟨L, q_t1n h.inv h.hm hc⟩); (case s0 => simp only; omega); (case s1 => simp only; omega))
set_option maxHeartbeats 16000000 in
theorem ap_t2 (h : TurnH A B G n i mi k L W st) {c s b f : Int} (hc : k mi = ⟨own, .t2 c s b f⟩) (J : JP A B true true n cap i mi o k ρ w J0 G ⟨W, st, kd, wd, vl, ch⟩ ⟨own, .t2 c s b f⟩ p) : GP A B true true n cap i mi o ρ w I J0 G ⟨W, st, kd, wd, vl, ch⟩ ⟨own, .t2 c s b f⟩ p := by
  obtain ⟨hr, hl, bd, ewi, hst1⟩ := h.facts
  have hst0 := h.s0
  have hst2 := h.s1
  have hin := h.hin
  have hi := h.hi
  have hp := h.inv.ph mi h.hm
  rw [hc] at hp
  have hG4 := h.g4
  have hm4 : (mi : Int) < 4 := by have := h.hm; omega
  have hm := h.hm
  have hG : G = G.set mi (gb (.t2 c s b f)) := by have e := h.gm; rw [hc] at e; dsimp only at e; rw [← e]; exact set_same.symm
  have hc0 : 0 ≤ c ∧ c ≤ 1 := hp.1
  have hcl := hp.2.2.2
  have hXq := hXap A B true true
  unfold GP
  rcases own with _ | l
  · dsimp only [sqT, sqH, tkP, gvP, phE, phO, tkO, gvO]
    refine sxb hXq [.l] [] 4000 rfl (by (simp [-List.getD_eq_getElem?_getD, -List.length_eq_zero_iff, conjP, hr, hl, hst0, hst1, bd, hin, hc0, hcl, tkO, phO] <;> (first | omega | ((repeat' (refine And.intro ?_ ?_)) <;> (first | omega | exact decide_eq_false (by omega) | exact decide_eq_true (by omega)))))) ?_
    (refine ss_raw hXq 6 3 rfl rfl fun v3 => ?_; refine ss_raw hXq 6 4 rfl rfl fun v4 => ?_; refine' J ⟨⟨_, st + 1, _, _, _, _⟩, ⟨none, .t3 c s b (W.getD (bkP A B b).toNat 0 % 4294967296)⟩, (v3, v4), G⟩ ⟨⟨?s0, ?s1⟩, hG, ?iv⟩ _ _ _ (sub_ofD (sigP 1) rfl rfl rfl rfl rfl ?ht ?hh (by (repeat' (first | exact rfl | exact trivial | exact sim_refl _ | refine And.intro ?_ ?_))) ?ok); (case ht => exact ⟨by (repeat' (first | exact rfl | exact trivial | exact sim_refl _ | refine And.intro ?_ ?_)), by (repeat' (first | exact rfl | exact trivial | exact sim_refl _ | refine And.intro ?_ ?_)), by (repeat' (first | exact rfl | exact trivial | exact sim_refl _ | refine And.intro ?_ ?_)), by (repeat' (first | exact rfl | exact trivial | exact sim_refl _ | refine And.intro ?_ ?_)), by (repeat' (first | exact rfl | exact trivial | exact sim_refl _ | refine And.intro ?_ ?_)), by (repeat' (first | exact rfl | exact trivial | exact sim_refl _ | refine And.intro ?_ ?_)), by (repeat' (first | exact rfl | exact trivial | exact sim_refl _ | refine And.intro ?_ ?_)), trivial⟩); (case hh => (((repeat' (first | exact rfl | exact trivial | exact sim_refl _ | exact subE_same rfl ren_slE | exact subE_phE rfl rfl | exact sim_slV rfl | exact sim_tkP rfl | exact sim_gvP rfl | assumption | (simp; done) | (unfold lst; simp; done) | (simp; omega) | (unfold lst; simp; omega) | refine And.intro ?_ ?_)); done))); (case ok => (((repeat' (first | exact rfl | exact trivial | exact okE_slE | exact okE_phE rfl | exact okP_slV rfl | exact okP_tkP (A := 0) (B := 0) rfl | exact okP_gvP (A := 0) (B := 0) rfl | refine And.intro ?_ ?_)); done))); (case iv => exact ⟨L, q_t2 h.inv h.hm hc rfl⟩); (case s0 => simp only; omega); (case s1 => simp only; omega))
  · have hln := own_len h.inv h.hm (l := l) (by rw [hc]; rfl)
    dsimp only [sqT, sqH, tkP, gvP, phE, phO, tkO, gvO]
    refine sxb hXq [.l] [] 4000 rfl (by (simp [-List.getD_eq_getElem?_getD, -List.length_eq_zero_iff, conjP, hr, hl, hst0, hst1, bd, hin, hc0, hcl, tkO, phO] <;> (first | omega | ((repeat' (refine And.intro ?_ ?_)) <;> (first | omega | exact decide_eq_false (by omega) | exact decide_eq_true (by omega)))))) ?_
    (refine ss_raw hXq 6 3 rfl rfl fun v3 => ?_; refine ss_raw hXq 6 4 rfl rfl fun v4 => ?_; refine' J ⟨⟨_, st + 1, _, _, _, _⟩, ⟨some l, .t3 c s b (W.getD (bkP A B b).toNat 0 % 4294967296)⟩, (v3, v4), G⟩ ⟨⟨?s0, ?s1⟩, hG, ?iv⟩ _ _ _ (sub_ofD (sigP 1) rfl rfl rfl rfl rfl ?ht ?hh (by (repeat' (first | exact rfl | exact trivial | exact sim_refl _ | refine And.intro ?_ ?_))) ?ok); (case ht => exact ⟨by (repeat' (first | exact rfl | exact trivial | exact sim_refl _ | refine And.intro ?_ ?_)), by (repeat' (first | exact rfl | exact trivial | exact sim_refl _ | refine And.intro ?_ ?_)), by (repeat' (first | exact rfl | exact trivial | exact sim_refl _ | refine And.intro ?_ ?_)), by (repeat' (first | exact rfl | exact trivial | exact sim_refl _ | refine And.intro ?_ ?_)), by (repeat' (first | exact rfl | exact trivial | exact sim_refl _ | refine And.intro ?_ ?_)), by (repeat' (first | exact rfl | exact trivial | exact sim_refl _ | refine And.intro ?_ ?_)), by (repeat' (first | exact rfl | exact trivial | exact sim_refl _ | refine And.intro ?_ ?_)), trivial⟩); (case hh => (((repeat' (first | exact rfl | exact trivial | exact sim_refl _ | exact subE_same rfl ren_slE | exact subE_phE rfl rfl | exact sim_slV rfl | exact sim_tkP rfl | exact sim_gvP rfl | assumption | (simp; done) | (unfold lst; simp; done) | (simp; omega) | (unfold lst; simp; omega) | refine And.intro ?_ ?_)); done))); (case ok => (((repeat' (first | exact rfl | exact trivial | exact okE_slE | exact okE_phE rfl | exact okP_slV rfl | exact okP_tkP (A := 0) (B := 0) rfl | exact okP_gvP (A := 0) (B := 0) rfl | refine And.intro ?_ ?_)); done))); (case iv => exact ⟨L, q_t2 h.inv h.hm hc rfl⟩); (case s0 => simp only; omega); (case s1 => simp only; omega))
set_option maxHeartbeats 16000000 in
theorem ap_g1 (h : TurnH A B G n i mi k L W st) {b s : Int} (hc : k mi = ⟨own, .g1 b s⟩) (J : JP A B true true n cap i mi o k ρ w J0 G ⟨W, st, kd, wd, vl, ch⟩ ⟨own, .g1 b s⟩ p) : GP A B true true n cap i mi o ρ w I J0 G ⟨W, st, kd, wd, vl, ch⟩ ⟨own, .g1 b s⟩ p := by
  obtain ⟨hr, hl, bd, ewi, hst1⟩ := h.facts
  have hst0 := h.s0
  have hst2 := h.s1
  have hin := h.hin
  have hi := h.hi
  have hp := h.inv.ph mi h.hm
  rw [hc] at hp
  have hG4 := h.g4
  have hm4 : (mi : Int) < 4 := by have := h.hm; omega
  have hm := h.hm
  have hG : G = G.set mi (gb (.g1 b s)) := by have e := h.gm; rw [hc] at e; dsimp only at e; rw [← e]; exact set_same.symm
  have hb0 : 1 ≤ b ∧ b ≤ A + B := hp
  have hXq := hXap A B true true
  unfold GP
  rcases own with _ | l
  · dsimp only [sqT, sqH, tkP, gvP, phE, phO, tkO, gvO]
    refine sxb hXq [.l] [] 4000 rfl (by (simp [-List.getD_eq_getElem?_getD, -List.length_eq_zero_iff, conjP, hr, hl, hst0, hst1, bd, hin, hb0, gvO, phO] <;> (first | omega | ((repeat' (refine And.intro ?_ ?_)) <;> (first | omega | exact decide_eq_false (by omega) | exact decide_eq_true (by omega)))))) ?_
    (refine ss_raw hXq 6 3 rfl rfl fun v3 => ?_; refine ss_raw hXq 6 4 rfl rfl fun v4 => ?_; refine' J ⟨⟨_, st + 1, _, _, _, _⟩, ⟨none, .g2 b (W.getD (3 + classV A B b).toNat 0)⟩, (v3, v4), G⟩ ⟨⟨?s0, ?s1⟩, hG, ?iv⟩ _ _ _ (sub_ofD (sigP 2) rfl rfl rfl rfl rfl ?ht ?hh (by (repeat' (first | exact rfl | exact trivial | exact sim_refl _ | refine And.intro ?_ ?_))) ?ok); (case ht => exact ⟨by (repeat' (first | exact rfl | exact trivial | exact sim_refl _ | refine And.intro ?_ ?_)), by (repeat' (first | exact rfl | exact trivial | exact sim_refl _ | refine And.intro ?_ ?_)), by (repeat' (first | exact rfl | exact trivial | exact sim_refl _ | refine And.intro ?_ ?_)), by (repeat' (first | exact rfl | exact trivial | exact sim_refl _ | refine And.intro ?_ ?_)), by (repeat' (first | exact rfl | exact trivial | exact sim_refl _ | refine And.intro ?_ ?_)), by (repeat' (first | exact rfl | exact trivial | exact sim_refl _ | refine And.intro ?_ ?_)), by (repeat' (first | exact rfl | exact trivial | exact sim_refl _ | refine And.intro ?_ ?_)), trivial⟩); (case hh => (((repeat' (first | exact rfl | exact trivial | exact sim_refl _ | exact subE_same rfl ren_slE | exact subE_phE rfl rfl | exact sim_slV rfl | exact sim_tkP rfl | exact sim_gvP rfl | assumption | (simp; done) | (unfold lst; simp; done) | (simp; omega) | (unfold lst; simp; omega) | refine And.intro ?_ ?_)); done))); (case ok => (((repeat' (first | exact rfl | exact trivial | exact okE_slE | exact okE_phE rfl | exact okP_slV rfl | exact okP_tkP (A := 0) (B := 0) rfl | exact okP_gvP (A := 0) (B := 0) rfl | refine And.intro ?_ ?_)); done))); (case iv => exact ⟨L, q_g1 h.inv h.hm hc rfl⟩); (case s0 => simp only; omega); (case s1 => simp only; omega))
  · have hln := own_len h.inv h.hm (l := l) (by rw [hc]; rfl)
    dsimp only [sqT, sqH, tkP, gvP, phE, phO, tkO, gvO]
    refine sxb hXq [.l] [] 4000 rfl (by (simp [-List.getD_eq_getElem?_getD, -List.length_eq_zero_iff, conjP, hr, hl, hst0, hst1, bd, hin, hb0, gvO, phO] <;> (first | omega | ((repeat' (refine And.intro ?_ ?_)) <;> (first | omega | exact decide_eq_false (by omega) | exact decide_eq_true (by omega)))))) ?_
    (refine ss_raw hXq 6 3 rfl rfl fun v3 => ?_; refine ss_raw hXq 6 4 rfl rfl fun v4 => ?_; refine' J ⟨⟨_, st + 1, _, _, _, _⟩, ⟨some l, .g2 b (W.getD (3 + classV A B b).toNat 0)⟩, (v3, v4), G⟩ ⟨⟨?s0, ?s1⟩, hG, ?iv⟩ _ _ _ (sub_ofD (sigP 2) rfl rfl rfl rfl rfl ?ht ?hh (by (repeat' (first | exact rfl | exact trivial | exact sim_refl _ | refine And.intro ?_ ?_))) ?ok); (case ht => exact ⟨by (repeat' (first | exact rfl | exact trivial | exact sim_refl _ | refine And.intro ?_ ?_)), by (repeat' (first | exact rfl | exact trivial | exact sim_refl _ | refine And.intro ?_ ?_)), by (repeat' (first | exact rfl | exact trivial | exact sim_refl _ | refine And.intro ?_ ?_)), by (repeat' (first | exact rfl | exact trivial | exact sim_refl _ | refine And.intro ?_ ?_)), by (repeat' (first | exact rfl | exact trivial | exact sim_refl _ | refine And.intro ?_ ?_)), by (repeat' (first | exact rfl | exact trivial | exact sim_refl _ | refine And.intro ?_ ?_)), by (repeat' (first | exact rfl | exact trivial | exact sim_refl _ | refine And.intro ?_ ?_)), trivial⟩); (case hh => (((repeat' (first | exact rfl | exact trivial | exact sim_refl _ | exact subE_same rfl ren_slE | exact subE_phE rfl rfl | exact sim_slV rfl | exact sim_tkP rfl | exact sim_gvP rfl | assumption | (simp; done) | (unfold lst; simp; done) | (simp; omega) | (unfold lst; simp; omega) | refine And.intro ?_ ?_)); done))); (case ok => (((repeat' (first | exact rfl | exact trivial | exact okE_slE | exact okE_phE rfl | exact okP_slV rfl | exact okP_tkP (A := 0) (B := 0) rfl | exact okP_gvP (A := 0) (B := 0) rfl | refine And.intro ?_ ?_)); done))); (case iv => exact ⟨L, q_g1 h.inv h.hm hc rfl⟩); (case s0 => simp only; omega); (case s1 => simp only; omega))
end
end Go.Proofs.Ytmghcelohnlceaa
