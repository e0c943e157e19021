/- PoolApart: what all have -/
import Derived.Test.YtmghcelohnlceaaApartLookA
import Derived.Test.YtmghcelohnlceaaApartLookB
namespace Go.Proofs.Ytmghcelohnlceaa
open Go Go.Hx
set_option maxRecDepth 8000
section
variable {n cap : Nat} {o : Nat → ActP} {A B : Int} {L0 L1 : List Int} {i : Nat} {c0 c1 c2 c3 : Pk} {ρ : Nat → Nat × Nat} {w : World} {I : Act → World → Prop} {x : SP} {p : Nat → VV} {G : List Int}
set_option maxHeartbeats 16000000 in
theorem ck_loop {Fr : List Int} (hi : i < 200) (hn : 0 ≤ A ∧ A ≤ 5) (hb : 0 ≤ B ∧ B ≤ 5) (hG : G.length = 4)
    (h0 : ∃ b, G.getD 0 0 = b ∧ ((b = 0 ∧ c0.ph.giv = []) ∨ (0 < b ∧ b ≤ 20 ∧ c0.ph.giv = [b])) ∧ (lst c0.own).length ≤ 10) (h1 : ∃ b, G.getD 1 0 = b ∧ ((b = 0 ∧ c1.ph.giv = []) ∨ (0 < b ∧ b ≤ 20 ∧ c1.ph.giv = [b])) ∧ (lst c1.own).length ≤ 10) (h2 : ∃ b, G.getD 2 0 = b ∧ ((b = 0 ∧ c2.ph.giv = []) ∨ (0 < b ∧ b ≤ 20 ∧ c2.ph.giv = [b])) ∧ (lst c2.own).length ≤ 10) (h3 : ∃ b, G.getD 3 0 = b ∧ ((b = 0 ∧ c3.ph.giv = []) ∨ (0 < b ∧ b ≤ 20 ∧ c3.ph.giv = [b])) ∧ (lst c3.own).length ≤ 10)
    (hal : Fr.length ≤ 10) (hlen : (aQ Fr c0 c1 c2 c3 4).length = (A + B).toNat) (hnd : (aQ Fr c0 c1 c2 c3 4).Nodup) (back : ∀ cs T H, Sub (FEnv Try.prog (Xap A B true true).TE (hXap A B true true).te Try.f3 Try.f3.ntmps [.obj (.rows n 3 (actRow o))] (Is .tt [.obj (.rows n 3 (actRow o))]) ρ w) T H (spT (.slice 0 0 n cap) (i + 1)) (ckH n o A B x c0 c1 c2 c3 p G .absent) → SS (hXap A B true true) (At ρ w) (Is .tt [.obj (.rows n 3 (actRow o))]) ⟨cs, [], Try.f3, Try.f3.ntmps, [.obj (.rows n 3 (actRow o))], .lp I :: dnLp (flatS (contF Try.f3 11 [I])), T, H⟩) :
    SS (hXck A B L0 L1) (At ρ w) (Is .tt [.obj (.rows n 3 (actRow o))]) ⟨[], [], Try.f3, Try.f3.ntmps, [.obj (.rows n 3 (actRow o))], flatS (contF Try.f3 34 [I]), ckT (.slice 0 0 n cap) i (allV (some Fr) 18), ckH n o A B x c0 c1 c2 c3 p G (allE (some Fr))⟩ := by
  have hXk := hXck A B L0 L1
  obtain ⟨b0, g0, q0, o0⟩ := h0
  obtain ⟨b1, g1, q1, o1⟩ := h1
  obtain ⟨b2, g2, q2, o2⟩ := h2
  obtain ⟨b3, g3, q3, o3⟩ := h3
  refine sxb hXk [.l] [] 4000 rfl (by first | exact trivial | simp [conjP]) ?_
  refine ss_sub hXk (T' := ckTj (.slice 0 0 n cap) i (allV (some Fr) 18) 0) (H' := ckH n o A B x c0 c1 c2 c3 p G (allE (some Fr))) [0, 1, 2, 3, 4, 5, 6, 7, 8, 9, 10, 11, 12, 13, 14, 15, 16, 17, 18] rfl rfl rfl rfl ?tt ?hh (by (((repeat' (first | exact rfl | exact trivial | exact okE_slE | exact okE_phE rfl | exact okP_slV rfl | exact okP_tkP rfl | exact okP_gvP rfl | refine And.intro ?_ ?_)); done))) ?ok ?_
  case tt => (((repeat' (first | exact rfl | exact trivial | exact sim_refl _ | exact subE_same rfl ren_slE | exact subE_r rfl ren_slE ren_slE | exact subE_phE rfl rfl | exact sim_slV rfl | exact sim_slVr rfl | exact sim_slV3 rfl | exact sim_tkP rfl | exact sim_gvP rfl | exact sim_tkP3 rfl | exact sim_gvP3 rfl | (simp; done) | (unfold lst; simp; done) | refine And.intro ?_ ?_)); done))
  case hh => (((repeat' (first | exact rfl | exact trivial | exact sim_refl _ | exact subE_same rfl ren_slE | exact subE_r rfl ren_slE ren_slE | exact subE_phE rfl rfl | exact sim_slV rfl | exact sim_slVr rfl | exact sim_slV3 rfl | exact sim_tkP rfl | exact sim_gvP rfl | exact sim_tkP3 rfl | exact sim_gvP3 rfl | (simp; done) | (unfold lst; simp; done) | refine And.intro ?_ ?_)); done))
  case ok => (((repeat' (first | exact rfl | exact trivial | exact okE_slE | exact okE_phE rfl | exact okP_slV rfl | exact okP_tkP rfl | exact okP_gvP rfl | refine And.intro ?_ ?_)); done))
  refine ss_loop hXk (fun q : Nat × List Int => ckTj (.slice 0 0 n cap) i (allV (some q.2) 18) q.1) (fun q => ckH n o A B x c0 c1 c2 c3 p G (allE (some q.2))) (fun q => q.1 ≤ 4 ∧ q.2 = aQ Fr c0 c1 c2 c3 q.1 ∧ q.2.length ≤ 10 + 11 * q.1) (fun q => 4 - q.1) (0, Fr) ⟨Nat.zero_le _, rfl, by simp only; omega⟩ ?_
  rintro ⟨j, al⟩ ⟨hj, ha, hal⟩ I' back'
  dsimp only at hj ha hal
  dsimp only
  have bk := fun (j' : Nat) (hj' : j' ≤ 4) (hlt : j < j') (a' : List Int) (e : a' = aQ Fr c0 c1 c2 c3 j') (l : a'.length ≤ 10 + 11 * j') => back' (j', a') ⟨hj', e, l⟩ (by simp only; omega)
  rcases j with _ | _ | _ | _ | j
  · refine sxb hXk [.r 35] [] 4000 rfl (by first | exact trivial | simp [conjP]) ?_
    refine ss_flat hXk (k' := flatS (contF Try.f3 35 [I, I'])) rfl ?_
    exact ck_cl0 hG g0 q0 o0 ha hal (bk 1 (by omega) (by omega))
  · refine sxb hXk [.r 35] [] 4000 rfl (by first | exact trivial | simp [conjP]) ?_
    refine ss_flat hXk (k' := flatS (contF Try.f3 35 [I, I'])) rfl ?_
    exact ck_cl1 hG g1 q1 o1 ha hal (bk 2 (by omega) (by omega))
  · refine sxb hXk [.r 35] [] 4000 rfl (by first | exact trivial | simp [conjP]) ?_
    refine ss_flat hXk (k' := flatS (contF Try.f3 35 [I, I'])) rfl ?_
    exact ck_cl2 hG g2 q2 o2 ha hal (bk 3 (by omega) (by omega))
  · refine sxb hXk [.r 35] [] 4000 rfl (by first | exact trivial | simp [conjP]) ?_
    refine ss_flat hXk (k' := flatS (contF Try.f3 35 [I, I'])) rfl ?_
    exact ck_cl3 hG g3 q3 o3 ha hal (bk 4 (by omega) (by omega))
  · have hj0 : j = 0 := by omega
    subst hj0
    have ha4 : al = aQ Fr c0 c1 c2 c3 4 := ha
    dsimp only [ckTj, ckH, allV, allE]
    refine sxb hXk [.r 40] [] 4000 rfl (by (simp [-List.getD_eq_getElem?_getD, -List.length_eq_zero_iff, conjP] <;> (first | omega | ((repeat' (refine And.intro ?_ ?_)) <;> (first | omega | exact decide_eq_false (by omega) | exact decide_eq_true (by omega)))))) ?_
    refine sxb hXk [.r 40] [.F] 4000 rfl (by (simp [-List.getD_eq_getElem?_getD, -List.length_eq_zero_iff, conjP, addOP] <;> (first | omega | ((repeat' (refine And.intro ?_ ?_)) <;> (first | omega | exact decide_eq_false (by omega) | exact decide_eq_true (by omega)))))) ?_
    (refine ss_sub hXk (T' := ckT (.slice 0 0 n cap) i (allV (some al) 18)) (H' := ckH n o A B x c0 c1 c2 c3 p G (allE (some al))) [0, 1, 2, 3, 4, 5, 6, 7, 8, 9, 10, 11, 12, 13, 14, 15, 16, 17, 18] rfl rfl rfl rfl (by (repeat' (first | exact rfl | exact trivial | exact sim_refl _ | refine And.intro ?_ ?_))) (by (((repeat' (first | exact rfl | exact trivial | exact sim_refl _ | exact subE_same rfl ren_slE | exact subE_r rfl ren_slE ren_slE | exact subE_phE rfl rfl | exact sim_slV rfl | exact sim_slVr rfl | exact sim_slV3 rfl | exact sim_tkP rfl | exact sim_gvP rfl | exact sim_tkP3 rfl | exact sim_gvP3 rfl | (simp; done) | (unfold lst; simp; done) | refine And.intro ?_ ?_)); done))) (by (repeat' (first | exact rfl | exact trivial | exact sim_refl _ | refine And.intro ?_ ?_))) (by (((repeat' (first | exact rfl | exact trivial | exact okE_slE | exact okE_phE rfl | exact okP_slV rfl | exact okP_tkP rfl | exact okP_gvP rfl | refine And.intro ?_ ?_)); done))) ?_; exact ck_len hi hn hb (by rw [ha4]; exact hlen) (by rw [ha4]; exact hnd) back)
end
end Go.Proofs.Ytmghcelohnlceaa
