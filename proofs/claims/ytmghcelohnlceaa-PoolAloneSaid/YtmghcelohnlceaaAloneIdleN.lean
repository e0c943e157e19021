/- PoolAlone: a run alone from a client that has nothing to do; the whole. -/
import Derived.Test.YtmghcelohnlceaaAloneSoloN
namespace Go.Proofs.Ytmghcelohnlceaa.nl
open Go Go.Hx
set_option maxRecDepth 8000

section
variable {n : Nat} {o : Nat → ActP} {A B : Int} {own : Option (List Int)} {k : Nat → Pk} {m : Nat} {ρ : Nat → Nat × Nat} {w : World} {p : VV}
variable {wh : Int} {W : List Int} {st kd wd vl : Int} {ch : Bool} {L : Int → List Int} {j : Nat}
set_option maxHeartbeats 16000000 in
theorem so_mine (hm : m < 4) (hj : j ≤ 300) (s0 : 0 ≤ st) (s1 : st ≤ 200) (hq : InvQ A B j W k L) :
    SS (hXSo A B true true (L (ibits .and .i64 (wh.fdiv (2 ^ (min (2 : Int).toNat IntKind.i64.bits))) 1))) (At ρ w) (Is .tt [rwO n o]) ⟨[], [], Try.f4, Try.f4.ntmps, [rwO n o], contF Try.f4 20 [], soT wh, soH n o A B W st kd wd vl ch own .idle p⟩ := by
  have hc1 := and1 (wh.fdiv (2 ^ (min (2 : Int).toNat IntKind.i64.bits)))
  have hc2 : 0 ≤ ibits .and .i64 (wh.fdiv (2 ^ (min 2 IntKind.i64.bits))) 1 ∧ ibits .and .i64 (wh.fdiv (2 ^ (min 2 IntKind.i64.bits))) 1 ≤ 1 := hc1
  have hch := hq.chn _ hc1.1 hc1.2
  have hcl := hq.cls _ hc1.1 hc1.2
  have hcn := L_len hq (c := (ibits .and .i64 (wh.fdiv (2 ^ (min (2 : Int).toNat IntKind.i64.bits))) 1)) (by omega)
  have hnon := q_none hq hc1.1 hc1.2 rfl
  obtain ⟨hr, hl⟩ := inv_len hq
  have bd := hq.bd
  have h0 := hq.a0
  have h1 := hq.a1
  have h2 := hq.b0
  have h3 := hq.b1
  have hw5 : W.length ≤ 5000 := by omega
  have hc01 : (ibits .and .i64 (wh.fdiv (2 ^ (min (2 : Int).toNat IntKind.i64.bits))) 1) = 0 ∨ (ibits .and .i64 (wh.fdiv (2 ^ (min (2 : Int).toNat IntKind.i64.bits))) 1) = 1 := by omega
  generalize L (ibits .and .i64 (wh.fdiv (2 ^ (min (2 : Int).toNat IntKind.i64.bits))) 1) = Lc at *
  rcases Lc with _ | ⟨x, r⟩
  · refine ss_sw (hXSo A B true true []) (sw_ss (hXSo A B false true []) (cs := []) ?_)
    have hXq := hXSo A B false true []
    dsimp only [soT, soH, tkP, gvP, phE, phO, tkO, gvO]
    refine ss_drawZ (hXSo A B false true []) 7 [] 400 rfl (by repeat' (first | exact rfl | exact trivial | exact bd | exact hw5 | exact hr | exact hl | exact hc01 | exact hch | exact hcl | exact hcn | refine And.intro ?_ ?_)) ?_
    refine sxb hXq [.r 23] [] 4000 rfl (by (simp [-List.getD_eq_getElem?_getD, -List.length_eq_zero_iff, conjP] <;> (first | omega | ((repeat' (refine And.intro ?_ ?_)) <;> (first | omega | exact decide_eq_false (by omega) | exact decide_eq_true (by omega)))))) ?_
    refine sxb hXq [.r 23] [.F] 4000 rfl (by (simp [-List.getD_eq_getElem?_getD, -List.length_eq_zero_iff, conjP, hr, hc2] <;> (first | omega | ((repeat' (refine And.intro ?_ ?_)) <;> (first | omega | exact decide_eq_false (by omega) | exact decide_eq_true (by omega)))))) ?_
    refine sxb hXq [.r 23] [.F] 4000 rfl (by (simp [-List.getD_eq_getElem?_getD, -List.length_eq_zero_iff, conjP, getH, HE.so, hc2] <;> (first | omega | ((repeat' (refine And.intro ?_ ?_)) <;> (first | omega | exact decide_eq_false (by omega) | exact decide_eq_true (by omega)))))) ?_
    refine sxb hXq [.r 23] [.F] 4000 rfl (by (simp [-List.getD_eq_getElem?_getD, -List.length_eq_zero_iff, conjP, addOP, hr] <;> (first | omega | ((repeat' (refine And.intro ?_ ?_)) <;> (first | omega | exact decide_eq_false (by omega) | exact decide_eq_true (by omega)))))) ?_
    refine sxb hXq [.r 23] [.F] 4000 rfl (by (simp [-List.getD_eq_getElem?_getD, -List.length_eq_zero_iff, conjP, addOP, hc2] <;> (first | omega | ((repeat' (refine And.intro ?_ ?_)) <;> (first | omega | exact decide_eq_false (by omega) | exact decide_eq_true (by omega)))))) ?_
    refine sxb hXq [.r 23] [.F] 4000 rfl (by (simp [-List.getD_eq_getElem?_getD, -List.length_eq_zero_iff, conjP, addOP, hc2] <;> (first | omega | ((repeat' (refine And.intro ?_ ?_)) <;> (first | omega | exact decide_eq_false (by omega) | exact decide_eq_true (by omega)))))) ?_
    (refine ss_raw hXq 4 3 rfl rfl fun v3 => ?_; refine ss_raw hXq 4 4 rfl rfl fun v4 => ?_; refine ss_sub hXq (T' := smT0) (H' := smH n o A B own (v3, v4) [] (ibits .and .i64 (wh.fdiv (2 ^ (min (2 : Int).toNat IntKind.i64.bits))) 1) W st kd wd vl ch 0) [0, 2, 3, 4, 5, 14, 7, 9] rfl rfl rfl rfl ?tt ?hh (by (repeat' (first | exact rfl | exact trivial | exact sim_refl _ | refine And.intro ?_ ?_))) (by (((repeat' (first | exact rfl | exact trivial | exact okE_slE | exact okE_phE rfl | exact okP_slV rfl | exact okP_tkP rfl | exact okP_gvP rfl | refine And.intro ?_ ?_)); done))) ?_; (case tt => (repeat' (first | exact rfl | exact trivial | exact sim_refl _ | refine And.intro ?_ ?_))); (case hh => (((repeat' (first | exact rfl | exact trivial | exact sim_refl _ | exact subE_same rfl ren_slE | exact subE_r rfl ren_slE ren_slE | exact subE_phE rfl rfl | exact sim_slV rfl | exact sim_slVr rfl | exact sim_slV3 rfl | exact sim_tkP rfl | exact sim_gvP rfl | exact sim_tkP3 rfl | exact sim_gvP3 rfl | assumption | refine And.intro ?_ ?_)); done))); exact sm_no hr hl bd s0 (by omega) hc1 (hnon.1 rfl))
  · have hcy : classV A B (W.getD (3 + (ibits .and .i64 (wh.fdiv (2 ^ (min (2 : Int).toNat IntKind.i64.bits))) 1)).toNat 0 % 4294967296) = (ibits .and .i64 (wh.fdiv (2 ^ (min (2 : Int).toNat IntKind.i64.bits))) 1) := by
      by_cases q : classV A B (W.getD (3 + (ibits .and .i64 (wh.fdiv (2 ^ (min (2 : Int).toNat IntKind.i64.bits))) 1)).toNat 0 % 4294967296) = (ibits .and .i64 (wh.fdiv (2 ^ (min (2 : Int).toNat IntKind.i64.bits))) 1)
      · exact q
      · have := hnon.2 q; simp at this
    have hXq := hXSo A B true true (x :: r)
    dsimp only [soT, soH, tkP, gvP, phE, phO, tkO, gvO]
    refine ss_drawZ (hXSo A B true true (x :: r)) 7 [] 400 rfl (by repeat' (first | exact rfl | exact trivial | exact bd | exact hw5 | exact hr | exact hl | exact hc01 | exact hch | exact hcl | exact hcn | refine And.intro ?_ ?_)) ?_
    refine sxb hXq [.r 23] [] 4000 rfl (by (simp [-List.getD_eq_getElem?_getD, -List.length_eq_zero_iff, conjP] <;> (first | omega | ((repeat' (refine And.intro ?_ ?_)) <;> (first | omega | exact decide_eq_false (by omega) | exact decide_eq_true (by omega)))))) ?_
    refine sxb hXq [.r 23] [.F] 4000 rfl (by (simp [-List.getD_eq_getElem?_getD, -List.length_eq_zero_iff, conjP, hr, hc2] <;> (first | omega | ((repeat' (refine And.intro ?_ ?_)) <;> (first | omega | exact decide_eq_false (by omega) | exact decide_eq_true (by omega)))))) ?_
    refine sxb hXq [.r 23] [.F] 4000 rfl (by (simp [-List.getD_eq_getElem?_getD, -List.length_eq_zero_iff, conjP, getH, HE.so, hc2] <;> (first | omega | ((repeat' (refine And.intro ?_ ?_)) <;> (first | omega | exact decide_eq_false (by omega) | exact decide_eq_true (by omega)))))) ?_
    refine sxb hXq [.r 23] [.F] 4000 rfl (by (simp [-List.getD_eq_getElem?_getD, -List.length_eq_zero_iff, conjP, addOP, hr] <;> (first | omega | ((repeat' (refine And.intro ?_ ?_)) <;> (first | omega | exact decide_eq_false (by omega) | exact decide_eq_true (by omega)))))) ?_
    refine sxb hXq [.r 23] [.F] 4000 rfl (by (simp [-List.getD_eq_getElem?_getD, -List.length_eq_zero_iff, conjP, addOP, hc2] <;> (first | omega | ((repeat' (refine And.intro ?_ ?_)) <;> (first | omega | exact decide_eq_false (by omega) | exact decide_eq_true (by omega)))))) ?_
    refine sxb hXq [.r 23] [.F] 4000 rfl (by (simp [-List.getD_eq_getElem?_getD, -List.length_eq_zero_iff, conjP, addOP, hc2] <;> (first | omega | ((repeat' (refine And.intro ?_ ?_)) <;> (first | omega | exact decide_eq_false (by omega) | exact decide_eq_true (by omega)))))) ?_
    (refine ss_raw hXq 4 3 rfl rfl fun v3 => ?_; refine ss_raw hXq 4 4 rfl rfl fun v4 => ?_; refine ss_sub hXq (T' := smT0) (H' := smH n o A B own (v3, v4) (x :: r) (ibits .and .i64 (wh.fdiv (2 ^ (min (2 : Int).toNat IntKind.i64.bits))) 1) W st kd wd vl ch 0) [0, 2, 3, 4, 5, 14, 7, 9] rfl rfl rfl rfl ?tt ?hh (by (repeat' (first | exact rfl | exact trivial | exact sim_refl _ | refine And.intro ?_ ?_))) (by (((repeat' (first | exact rfl | exact trivial | exact okE_slE | exact okE_phE rfl | exact okP_slV rfl | exact okP_tkP rfl | exact okP_gvP rfl | refine And.intro ?_ ?_)); done))) ?_; (case tt => (repeat' (first | exact rfl | exact trivial | exact sim_refl _ | refine And.intro ?_ ?_))); (case hh => (((repeat' (first | exact rfl | exact trivial | exact sim_refl _ | exact subE_same rfl ren_slE | exact subE_r rfl ren_slE ren_slE | exact subE_phE rfl rfl | exact sim_slV rfl | exact sim_slVr rfl | exact sim_slV3 rfl | exact sim_tkP rfl | exact sim_gvP rfl | exact sim_tkP3 rfl | exact sim_gvP3 rfl | assumption | refine And.intro ?_ ?_)); done))); exact sm_yes hr hl bd s0 (by omega) hc1 hcy)
end
def slT (wh : Int) : List (Nat × SV) := [(2, .int .i64 wh), (7, .tt), (8, .ptr 1 0), (9, .ptr 3 0), (11, .slice 4 0 4 4)]
section
variable {n cap : Nat} {o : Nat → ActP} {A B : Int} {k : Nat → Pk} {ρ : Nat → Nat × Nat} {w : World} {p : Nat → VV}
variable {wh : Int} {W : List Int} {st kd wd vl : Int} {ch : Bool} {i : Nat}
set_option maxHeartbeats 16000000 in
theorem al_solo (hi : i ≤ 100) (hI : InvB A B i ⟨⟨W, st, kd, wd, vl, ch⟩, k, p⟩) :
    SS (hXal A B true true) (At ρ w) (Is .tt [rwO n o]) ⟨[], [], Try.f4, Try.f4.ntmps, [rwO n o], contF Try.f4 19 [], slT wh, rwO n o :: (spH n o A B ⟨W, st, kd, wd, vl, ch⟩ k p).tail⟩ := by
  have h3 := and3 wh
  have hm : ibits .and .i64 wh 3 = 0 ∨ ibits .and .i64 wh 3 = 1 ∨ ibits .and .i64 wh 3 = 2 ∨ ibits .and .i64 wh 3 = 3 := by omega
  obtain ⟨⟨s0, s1⟩, L, hq⟩ := hI
  dsimp only at s0 s1 hq
  rcases hm with e | e | e | e
  · refine sx (hXal A B true true) [] 4 rfl (by first | exact trivial | (simp [conjP]; omega)) ?_
    simp only [e]
    refine sxb (hXal A B true true) [.r 20] [] 400 rfl (by first | exact trivial | simp [conjP]) ?_
    refine ss_sub (hXal A B true true) (T' := soT wh) (H' := soH n o A B W st kd wd vl ch (k 0).own (k 0).ph (p 0)) [0, 1, 2, 3, 5, 6, 7] rfl rfl rfl rfl (by (repeat' (first | exact rfl | exact trivial | exact sim_refl _ | refine And.intro ?_ ?_))) (by (((repeat' (first | exact rfl | exact trivial | exact sim_refl _ | exact subE_same rfl ren_slE | exact subE_r rfl ren_slE ren_slE | exact subE_phE rfl rfl | exact sim_slV rfl | exact sim_slVr rfl | exact sim_slV3 rfl | exact sim_tkP rfl | exact sim_gvP rfl | exact sim_tkP3 rfl | exact sim_gvP3 rfl | assumption | refine And.intro ?_ ?_)); done))) (by (repeat' (first | exact rfl | exact trivial | exact sim_refl _ | refine And.intro ?_ ?_))) (by (((repeat' (first | exact rfl | exact trivial | exact okE_slE | exact okE_phE rfl | exact okP_slV rfl | exact okP_tkP rfl | exact okP_gvP rfl | refine And.intro ?_ ?_)); done))) ?_
    refine ss_sw (hXal A B true true) (sw_ss (hXSo A B true true (L (ibits .and .i64 (wh.fdiv (2 ^ (min (2 : Int).toNat IntKind.i64.bits))) 1))) (cs := []) ?_)
    by_cases hph : (k 0).ph = .idle
    · rw [hph]; exact so_mine (m := 0) (by decide) (by omega) s0 (by omega) hq
    · exact so_go (m := 0) hph (by decide) rfl (by omega) s0 (by omega) hq
  · refine sx (hXal A B true true) [] 4 rfl (by first | exact trivial | (simp [conjP]; omega)) ?_
    simp only [e]
    refine sxb (hXal A B true true) [.r 20] [] 400 rfl (by first | exact trivial | simp [conjP]) ?_
    refine ss_sub (hXal A B true true) (T' := soT wh) (H' := soH n o A B W st kd wd vl ch (k 1).own (k 1).ph (p 1)) [0, 1, 2, 3, 8, 9, 10] rfl rfl rfl rfl (by (repeat' (first | exact rfl | exact trivial | exact sim_refl _ | refine And.intro ?_ ?_))) (by (((repeat' (first | exact rfl | exact trivial | exact sim_refl _ | exact subE_same rfl ren_slE | exact subE_r rfl ren_slE ren_slE | exact subE_phE rfl rfl | exact sim_slV rfl | exact sim_slVr rfl | exact sim_slV3 rfl | exact sim_tkP rfl | exact sim_gvP rfl | exact sim_tkP3 rfl | exact sim_gvP3 rfl | assumption | refine And.intro ?_ ?_)); done))) (by (repeat' (first | exact rfl | exact trivial | exact sim_refl _ | refine And.intro ?_ ?_))) (by (((repeat' (first | exact rfl | exact trivial | exact okE_slE | exact okE_phE rfl | exact okP_slV rfl | exact okP_tkP rfl | exact okP_gvP rfl | refine And.intro ?_ ?_)); done))) ?_
    refine ss_sw (hXal A B true true) (sw_ss (hXSo A B true true (L (ibits .and .i64 (wh.fdiv (2 ^ (min (2 : Int).toNat IntKind.i64.bits))) 1))) (cs := []) ?_)
    by_cases hph : (k 1).ph = .idle
    · rw [hph]; exact so_mine (m := 1) (by decide) (by omega) s0 (by omega) hq
    · exact so_go (m := 1) hph (by decide) rfl (by omega) s0 (by omega) hq
  · refine sx (hXal A B true true) [] 4 rfl (by first | exact trivial | (simp [conjP]; omega)) ?_
    simp only [e]
    refine sxb (hXal A B true true) [.r 20] [] 400 rfl (by first | exact trivial | simp [conjP]) ?_
    refine ss_sub (hXal A B true true) (T' := soT wh) (H' := soH n o A B W st kd wd vl ch (k 2).own (k 2).ph (p 2)) [0, 1, 2, 3, 11, 12, 13] rfl rfl rfl rfl (by (repeat' (first | exact rfl | exact trivial | exact sim_refl _ | refine And.intro ?_ ?_))) (by (((repeat' (first | exact rfl | exact trivial | exact sim_refl _ | exact subE_same rfl ren_slE | exact subE_r rfl ren_slE ren_slE | exact subE_phE rfl rfl | exact sim_slV rfl | exact sim_slVr rfl | exact sim_slV3 rfl | exact sim_tkP rfl | exact sim_gvP rfl | exact sim_tkP3 rfl | exact sim_gvP3 rfl | assumption | refine And.intro ?_ ?_)); done))) (by (repeat' (first | exact rfl | exact trivial | exact sim_refl _ | refine And.intro ?_ ?_))) (by (((repeat' (first | exact rfl | exact trivial | exact okE_slE | exact okE_phE rfl | exact okP_slV rfl | exact okP_tkP rfl | exact okP_gvP rfl | refine And.intro ?_ ?_)); done))) ?_
    refine ss_sw (hXal A B true true) (sw_ss (hXSo A B true true (L (ibits .and .i64 (wh.fdiv (2 ^ (min (2 : Int).toNat IntKind.i64.bits))) 1))) (cs := []) ?_)
    by_cases hph : (k 2).ph = .idle
    · rw [hph]; exact so_mine (m := 2) (by decide) (by omega) s0 (by omega) hq
    · exact so_go (m := 2) hph (by decide) rfl (by omega) s0 (by omega) hq
  · refine sx (hXal A B true true) [] 4 rfl (by first | exact trivial | (simp [conjP]; omega)) ?_
    simp only [e]
    refine sxb (hXal A B true true) [.r 20] [] 400 rfl (by first | exact trivial | simp [conjP]) ?_
    refine ss_sub (hXal A B true true) (T' := soT wh) (H' := soH n o A B W st kd wd vl ch (k 3).own (k 3).ph (p 3)) [0, 1, 2, 3, 14, 15, 16] rfl rfl rfl rfl (by (repeat' (first | exact rfl | exact trivial | exact sim_refl _ | refine And.intro ?_ ?_))) (by (((repeat' (first | exact rfl | exact trivial | exact sim_refl _ | exact subE_same rfl ren_slE | exact subE_r rfl ren_slE ren_slE | exact subE_phE rfl rfl | exact sim_slV rfl | exact sim_slVr rfl | exact sim_slV3 rfl | exact sim_tkP rfl | exact sim_gvP rfl | exact sim_tkP3 rfl | exact sim_gvP3 rfl | assumption | refine And.intro ?_ ?_)); done))) (by (repeat' (first | exact rfl | exact trivial | exact sim_refl _ | refine And.intro ?_ ?_))) (by (((repeat' (first | exact rfl | exact trivial | exact okE_slE | exact okE_phE rfl | exact okP_slV rfl | exact okP_tkP rfl | exact okP_gvP rfl | refine And.intro ?_ ?_)); done))) ?_
    refine ss_sw (hXal A B true true) (sw_ss (hXSo A B true true (L (ibits .and .i64 (wh.fdiv (2 ^ (min (2 : Int).toNat IntKind.i64.bits))) 1))) (cs := []) ?_)
    by_cases hph : (k 3).ph = .idle
    · rw [hph]; exact so_mine (m := 3) (by decide) (by omega) s0 (by omega) hq
    · exact so_go (m := 3) hph (by decide) rfl (by omega) s0 (by omega) hq
end
end Go.Proofs.Ytmghcelohnlceaa.nl
