/- HeadsFree: from its entry to its end. -/
import Derived.Test.YtfdkaakllceebaaDoorFreeTails
namespace Go.Proofs.YtfdkaakllceebaaDoor
open Go Go.Hx
set_option maxRecDepth 8000

set_option maxHeartbeats 16000000 in
theorem fe_nnn_n (l0 l1 l2 l3 : Int) {a : Option Addr} {Wl : List Int} (hla : (mkA (cAnd 1 l0) 4 (cAnd 1 l1) 2 4 (cMod 6 l2) 6 (cMod 6 l3) 2).W = Wl) (hU : InU Wl) (hlen : (Wl.length : Int) = sizeV (cAnd 1 l0) 4 (cAnd 1 l1) 4 (cMod 6 l2) 6 (cMod 6 l3)) (e0 : hsR (cAnd 1 l0) 4 (cAnd 1 l1) 2 4 (cMod 6 l2) 6 (cMod 6 l3) 2 0 Wl.length Wl = .ok none) (e1 : hsR (cAnd 1 l0) 4 (cAnd 1 l1) 2 4 (cMod 6 l2) 6 (cMod 6 l3) 2 1 Wl.length Wl = .ok none) (eF : frR (.ok none) (.ok none) = .ok none) (hM : cMod 6 l2 + cMod 6 l3 = 0) :
    Gives Tryd.prog 6 [L4 l0 l1 l2 l3, .raw (.slice a 0 0)] [pinE RTV] (Is .tt [pinE RTV]) := by
  subst hla
  have hr := cfg_rightH l0 l1 l2 l3
  have hsz2 := size_bd hr
  have hm2 := cMod6 l2
  have hm3 := cMod6 l3
  have o0 : lsOb (.ok none) (mkA (cAnd 1 l0) 4 (cAnd 1 l1) 2 4 (cMod 6 l2) 6 (cMod 6 l3) 2).W.length (mkA (cAnd 1 l0) 4 (cAnd 1 l1) 2 4 (cMod 6 l2) 6 (cMod 6 l3) 2).W.length (mkA (cAnd 1 l0) 4 (cAnd 1 l1) 2 4 (cMod 6 l2) 6 (cMod 6 l3) 2).W := .inl ⟨rfl, rfl, hU⟩
  have o1 : lsOb (.ok none) (mkA (cAnd 1 l0) 4 (cAnd 1 l1) 2 4 (cMod 6 l2) 6 (cMod 6 l3) 2).W.length (mkA (cAnd 1 l0) 4 (cAnd 1 l1) 2 4 (cMod 6 l2) 6 (cMod 6 l3) 2).W.length (mkA (cAnd 1 l0) 4 (cAnd 1 l1) 2 4 (cMod 6 l2) 6 (cMod 6 l3) 2).W := .inl ⟨rfl, rfl, hU⟩
  have hF : fOb (cAnd 1 l0) 4 (cAnd 1 l1) 2 4 (cMod 6 l2) 6 (cMod 6 l3) 2 (.ok none) (mkA (cAnd 1 l0) 4 (cAnd 1 l1) 2 4 (cMod 6 l2) 6 (cMod 6 l3) 2).W.length (mkA (cAnd 1 l0) 4 (cAnd 1 l1) 2 4 (cMod 6 l2) 6 (cMod 6 l3) 2).W.length (mkA (cAnd 1 l0) 4 (cAnd 1 l1) 2 4 (cMod 6 l2) 6 (cMod 6 l3) 2).W := .inl ⟨hr, rfl, rfl, hU, hlen, by omega, by rw [e0, e1]; exact eF⟩
  have hMk := mk_free hr
  rw [if_pos hM] at hMk
  have hMo : fOb (cAnd 1 l0) 4 (cAnd 1 l1) 2 4 (cMod 6 l2) 6 (cMod 6 l3) 2 (.ok none) (mkA (cAnd 1 l0) 4 (cAnd 1 l1) 2 4 (cMod 6 l2) 6 (cMod 6 l3) 2).W.length (mkA (cAnd 1 l0) 4 (cAnd 1 l1) 2 4 (cMod 6 l2) 6 (cMod 6 l3) 2).W.length (mkA (cAnd 1 l0) 4 (cAnd 1 l1) 2 4 (cMod 6 l2) 6 (cMod 6 l3) 2).W := .inl ⟨hr, rfl, rfl, mkA_in hr, by rw [mkA_len]; omega, by omega, hMk⟩
  have hbl : IntKind.i64.wrap (cMod 6 l2 + cMod 6 l3) = cMod 6 l2 + cMod 6 l3 := wi64 (by omega) (by omega)
  have hbl0 : IntKind.i64.wrap (cMod 6 l2 + cMod 6 l3) = 0 := by rw [hbl, hM]
  have hX := hXHh (mkA (cAnd 1 l0) 4 (cAnd 1 l1) 2 4 (cMod 6 l2) 6 (cMod 6 l3) 2).W (.ok none) (.ok none) (.ok none) (.ok none) 3
  refine gives_x hX (fn := Tryd.f6) rfl rfl rfl rfl fun ρ w => ?_
  have tail := ft_nnn (Wl := (mkA (cAnd 1 l0) 4 (cAnd 1 l1) 2 4 (cMod 6 l2) 6 (cMod 6 l3) 2).W) (rM := .ok none) (h0 := 3) (ρ := ρ) (w := w)
  have t1 : SS (hXHh (mkA (cAnd 1 l0) 4 (cAnd 1 l1) 2 4 (cMod 6 l2) 6 (cMod 6 l3) 2).W (.ok none) (.ok none) (.ok none) (.ok none) 3) (At ρ w) (Is .tt [pinE RTV]) ⟨[], [], Tryd.f6, Tryd.f6.ntmps, [pinE RTV], contF Tryd.f6 10 [], [(5, .tt), (8, .nilslice), (9, .niliface), (10, .nilslice), (11, .niliface), (12, .nilslice), (13, .niliface), (14, .nilslice)], fH_nnn⟩ := by
    refine sxb hX [.l] [] 4000 rfl trivial ?_
    refine ss_sub hX (T' := [(5, .tt), (8, .nilslice), (9, .niliface), (10, .nilslice), (11, .niliface), (12, .nilslice), (13, .niliface), (14, .nilslice), (16, .int .i64 0)]) (H' := fH_nnn) [0] rfl rfl rfl rfl (by (repeat' (first | exact rfl | exact trivial | exact sim_refl _ | refine And.intro ?_ ?_))) (by (repeat' (first | exact rfl | exact trivial | exact sim_refl _ | refine And.intro ?_ ?_))) (by (repeat' (first | exact rfl | exact trivial | exact sim_refl _ | refine And.intro ?_ ?_))) (by (repeat' (first | exact rfl | exact trivial | exact sim_refl _ | refine And.intro ?_ ?_))) ?_
    refine ss_loop hX (fun _ : Unit => [(5, .tt), (8, .nilslice), (9, .niliface), (10, .nilslice), (11, .niliface), (12, .nilslice), (13, .niliface), (14, .nilslice), (16, .int .i64 0)]) (fun _ => fH_nnn) (fun _ => True) (fun _ => 0) () trivial ?_
    intro _ _ I2 _
    refine sxb hX [.r 15] [] 4000 rfl (by (simp [conjP])) ?_
    refine sxb hX [.r 15] [.F] 4000 rfl (by (simp [conjP, addOP])) ?_
    (refine ss_sub hX (T' := fT_nnn) (H' := fH_nnn) [0] rfl rfl rfl rfl (by (repeat' (first | exact rfl | exact trivial | exact sim_refl _ | refine And.intro ?_ ?_))) (by (repeat' (first | exact rfl | exact trivial | exact sim_refl _ | refine And.intro ?_ ?_))) (by (repeat' (first | exact rfl | exact trivial | exact sim_refl _ | refine And.intro ?_ ?_))) (by (repeat' (first | exact rfl | exact trivial | exact sim_refl _ | refine And.intro ?_ ?_))) ?_; exact tail)
  refine sxb hX [.r 10] [] 4000 rfl (by (simp [conjP, getH, HE.so, hr, sel0, sel1, e0, e1, o0, hF])) ?_
  refine sxb hX [.r 10] [.F] 4000 rfl (by (simp [conjP])) ?_
  refine sxb hX [.r 10] [.F] 4000 rfl (by (simp [conjP, addOP, hbl0])) ?_
  (refine ss_sub hX (T' := [(5, .tt), (8, .nilslice), (9, .niliface), (10, .nilslice), (11, .niliface), (12, .nilslice), (13, .niliface), (14, .nilslice)]) (H' := fH_nnn) [0] rfl rfl rfl rfl (by (repeat' (first | exact rfl | exact trivial | exact sim_refl _ | refine And.intro ?_ ?_))) (by (repeat' (first | exact rfl | exact trivial | exact sim_refl _ | refine And.intro ?_ ?_))) (by (repeat' (first | exact rfl | exact trivial | exact sim_refl _ | refine And.intro ?_ ?_))) (by (repeat' (first | exact rfl | exact trivial | exact sim_refl _ | refine And.intro ?_ ?_))) ?_; exact t1)

set_option maxHeartbeats 16000000 in
theorem fe_nnn_g (l0 l1 l2 l3 : Int) {a : Option Addr} {Wl : List Int} (hla : (mkA (cAnd 1 l0) 4 (cAnd 1 l1) 2 4 (cMod 6 l2) 6 (cMod 6 l3) 2).W = Wl) (hU : InU Wl) (hlen : (Wl.length : Int) = sizeV (cAnd 1 l0) 4 (cAnd 1 l1) 4 (cMod 6 l2) 6 (cMod 6 l3)) (e0 : hsR (cAnd 1 l0) 4 (cAnd 1 l1) 2 4 (cMod 6 l2) 6 (cMod 6 l3) 2 0 Wl.length Wl = .ok none) (e1 : hsR (cAnd 1 l0) 4 (cAnd 1 l1) 2 4 (cMod 6 l2) 6 (cMod 6 l3) 2 1 Wl.length Wl = .ok none) (eF : frR (.ok none) (.ok none) = .ok none) (hM : ¬ cMod 6 l2 + cMod 6 l3 = 0) :
    Gives Tryd.prog 6 [L4 l0 l1 l2 l3, .raw (.slice a 0 0)] [pinE RTV] (Is .tt [pinE RTV]) := by
  subst hla
  have hr := cfg_rightH l0 l1 l2 l3
  have hsz2 := size_bd hr
  have hm2 := cMod6 l2
  have hm3 := cMod6 l3
  have o0 : lsOb (.ok none) (mkA (cAnd 1 l0) 4 (cAnd 1 l1) 2 4 (cMod 6 l2) 6 (cMod 6 l3) 2).W.length (mkA (cAnd 1 l0) 4 (cAnd 1 l1) 2 4 (cMod 6 l2) 6 (cMod 6 l3) 2).W.length (mkA (cAnd 1 l0) 4 (cAnd 1 l1) 2 4 (cMod 6 l2) 6 (cMod 6 l3) 2).W := .inl ⟨rfl, rfl, hU⟩
  have o1 : lsOb (.ok none) (mkA (cAnd 1 l0) 4 (cAnd 1 l1) 2 4 (cMod 6 l2) 6 (cMod 6 l3) 2).W.length (mkA (cAnd 1 l0) 4 (cAnd 1 l1) 2 4 (cMod 6 l2) 6 (cMod 6 l3) 2).W.length (mkA (cAnd 1 l0) 4 (cAnd 1 l1) 2 4 (cMod 6 l2) 6 (cMod 6 l3) 2).W := .inl ⟨rfl, rfl, hU⟩
  have hF : fOb (cAnd 1 l0) 4 (cAnd 1 l1) 2 4 (cMod 6 l2) 6 (cMod 6 l3) 2 (.ok none) (mkA (cAnd 1 l0) 4 (cAnd 1 l1) 2 4 (cMod 6 l2) 6 (cMod 6 l3) 2).W.length (mkA (cAnd 1 l0) 4 (cAnd 1 l1) 2 4 (cMod 6 l2) 6 (cMod 6 l3) 2).W.length (mkA (cAnd 1 l0) 4 (cAnd 1 l1) 2 4 (cMod 6 l2) 6 (cMod 6 l3) 2).W := .inl ⟨hr, rfl, rfl, hU, hlen, by omega, by rw [e0, e1]; exact eF⟩
  have hMk := mk_free hr
  rw [if_neg hM] at hMk
  have hMo : fOb (cAnd 1 l0) 4 (cAnd 1 l1) 2 4 (cMod 6 l2) 6 (cMod 6 l3) 2 (.ok (some (rngL (cMod 6 l2 + cMod 6 l3).toNat))) (mkA (cAnd 1 l0) 4 (cAnd 1 l1) 2 4 (cMod 6 l2) 6 (cMod 6 l3) 2).W.length (mkA (cAnd 1 l0) 4 (cAnd 1 l1) 2 4 (cMod 6 l2) 6 (cMod 6 l3) 2).W.length (mkA (cAnd 1 l0) 4 (cAnd 1 l1) 2 4 (cMod 6 l2) 6 (cMod 6 l3) 2).W := .inl ⟨hr, rfl, rfl, mkA_in hr, by rw [mkA_len]; omega, by omega, hMk⟩
  have hbl : IntKind.i64.wrap (cMod 6 l2 + cMod 6 l3) = cMod 6 l2 + cMod 6 l3 := wi64 (by omega) (by omega)
  skip
  have hX := hXHh (mkA (cAnd 1 l0) 4 (cAnd 1 l1) 2 4 (cMod 6 l2) 6 (cMod 6 l3) 2).W (.ok none) (.ok none) (.ok none) (.ok (some (rngL (cMod 6 l2 + cMod 6 l3).toNat))) 3
  refine gives_x hX (fn := Tryd.f6) rfl rfl rfl rfl fun ρ w => ?_
  have tail := ft_nnn (Wl := (mkA (cAnd 1 l0) 4 (cAnd 1 l1) 2 4 (cMod 6 l2) 6 (cMod 6 l3) 2).W) (rM := .ok (some (rngL (cMod 6 l2 + cMod 6 l3).toNat))) (h0 := 3) (ρ := ρ) (w := w)
  have t1 : SS (hXHh (mkA (cAnd 1 l0) 4 (cAnd 1 l1) 2 4 (cMod 6 l2) 6 (cMod 6 l3) 2).W (.ok none) (.ok none) (.ok none) (.ok (some (rngL (cMod 6 l2 + cMod 6 l3).toNat))) 3) (At ρ w) (Is .tt [pinE RTV]) ⟨[], [], Tryd.f6, Tryd.f6.ntmps, [pinE RTV], contF Tryd.f6 10 [], [(5, .tt), (8, .nilslice), (9, .niliface), (10, .nilslice), (11, .niliface), (12, .nilslice), (13, .niliface), (14, .sbuf 1 1 0 (rngL (cMod 6 l2 + cMod 6 l3).toNat).length)], (fH_nnn ++ [IB (rngL (cMod 6 l2 + cMod 6 l3).toNat)])⟩ := by
    refine sxb hX [.l] [] 4000 rfl trivial ?_
    have hrl := rng_len (cMod 6 l2 + cMod 6 l3).toNat
    have htn : (((cMod 6 l2 + cMod 6 l3).toNat : Nat) : Int) = cMod 6 l2 + cMod 6 l3 := by omega
    have hrg := fun (i : Nat) (h : i < (cMod 6 l2 + cMod 6 l3).toNat) => rng_get h
    generalize rngL (cMod 6 l2 + cMod 6 l3).toNat = g at *
    refine ss_sub hX (T' := [(5, .tt), (8, .nilslice), (9, .niliface), (10, .nilslice), (11, .niliface), (12, .nilslice), (13, .niliface), (14, .sbuf 1 1 0 g.length), (16, .int .i64 ((0 : Nat) : Int))]) (H' := (fH_nnn ++ [IB (g)])) [0, 1] rfl rfl rfl rfl (by (repeat' (first | exact rfl | exact trivial | exact sim_refl _ | refine And.intro ?_ ?_))) (by (repeat' (first | exact rfl | exact trivial | exact sim_refl _ | refine And.intro ?_ ?_))) (by (repeat' (first | exact rfl | exact trivial | exact sim_refl _ | refine And.intro ?_ ?_))) (by (repeat' (first | exact rfl | exact trivial | exact sim_refl _ | refine And.intro ?_ ?_))) ?_
    refine ss_loop hX (fun i : Nat => [(5, .tt), (8, .nilslice), (9, .niliface), (10, .nilslice), (11, .niliface), (12, .nilslice), (13, .niliface), (14, .sbuf 1 1 0 g.length), (16, .int .i64 (i : Int))]) (fun _ => (fH_nnn ++ [IB (g)])) (fun i => i ≤ g.length) (fun i => g.length - i) 0 (Nat.zero_le _) ?_
    intro i hi0 I2 back
    have hi : i ≤ g.length := hi0
    by_cases h1 : i < g.length
    · have h2 : (i : Int) < (g.length : Int) := by omega
      have h3 := hrg i (by omega)
      have h4 : IntKind.i64.wrap ((i : Int) + 1) = (i : Int) + 1 := wi64 (by omega) (by omega)
      refine sx hX [] 4000 rfl (by (simp [conjP])) ?_
      refine sx hX [.T] 4000 rfl (by (simp [conjP, h1, h2, cellOff])) ?_
      refine sx hX [.F] 4000 rfl (by (simp [-List.getD_eq_getElem?_getD, -List.length_eq_zero_iff, conjP, addOP, h3, h4, cellOff])) ?_
      (refine back (i + 1) ?q1 ?q2 _ _ _ (sub_of [0, 1] rfl rfl rfl rfl ?tt (by (repeat' (first | exact rfl | exact trivial | exact sim_refl _ | refine And.intro ?_ ?_))) (by (repeat' (first | exact rfl | exact trivial | exact sim_refl _ | refine And.intro ?_ ?_))) (by (repeat' (first | exact rfl | exact trivial | exact sim_refl _ | refine And.intro ?_ ?_)))); (case tt => refine ⟨by (repeat' (first | exact rfl | exact trivial | exact sim_refl _ | refine And.intro ?_ ?_)), by (repeat' (first | exact rfl | exact trivial | exact sim_refl _ | refine And.intro ?_ ?_)), by (repeat' (first | exact rfl | exact trivial | exact sim_refl _ | refine And.intro ?_ ?_)), by (repeat' (first | exact rfl | exact trivial | exact sim_refl _ | refine And.intro ?_ ?_)), by (repeat' (first | exact rfl | exact trivial | exact sim_refl _ | refine And.intro ?_ ?_)), by (repeat' (first | exact rfl | exact trivial | exact sim_refl _ | refine And.intro ?_ ?_)), by (repeat' (first | exact rfl | exact trivial | exact sim_refl _ | refine And.intro ?_ ?_)), by (repeat' (first | exact rfl | exact trivial | exact sim_refl _ | refine And.intro ?_ ?_)), ⟨rfl, by rw [h4]; omega⟩, trivial⟩); (case q1 => exact h1); (case q2 => omega))
    · have h2 : ¬ (i : Int) < (g.length : Int) := by omega
      refine sxb hX [.r 15] [] 4000 rfl (by (simp [conjP])) ?_
      refine sxb hX [.r 15] [.F] 4000 rfl (by (simp [conjP, addOP, h2])) ?_
      (refine ss_sub hX (T' := fT_nnn) (H' := fH_nnn) [0] rfl rfl rfl rfl (by (repeat' (first | exact rfl | exact trivial | exact sim_refl _ | refine And.intro ?_ ?_))) (by (repeat' (first | exact rfl | exact trivial | exact sim_refl _ | refine And.intro ?_ ?_))) (by (repeat' (first | exact rfl | exact trivial | exact sim_refl _ | refine And.intro ?_ ?_))) (by (repeat' (first | exact rfl | exact trivial | exact sim_refl _ | refine And.intro ?_ ?_))) ?_; exact tail)
  have hrl := rng_len (cMod 6 l2 + cMod 6 l3).toNat
  have htn : (((cMod 6 l2 + cMod 6 l3).toNat : Nat) : Int) = cMod 6 l2 + cMod 6 l3 := by omega
  refine sxb hX [.r 10] [] 4000 rfl (by (simp [conjP, getH, HE.so, hr, sel0, sel1, e0, e1, o0, hF, hMo])) ?_
  refine sxb hX [.r 10] [.F] 4000 rfl (by (simp [conjP])) ?_
  refine sxb hX [.r 10] [.F] 4000 rfl (by (simp [conjP, addOP, hbl, hrl, htn])) ?_
  (refine ss_sub hX (T' := [(5, .tt), (8, .nilslice), (9, .niliface), (10, .nilslice), (11, .niliface), (12, .nilslice), (13, .niliface), (14, .sbuf 1 1 0 (rngL (cMod 6 l2 + cMod 6 l3).toNat).length)]) (H' := (fH_nnn ++ [IB (rngL (cMod 6 l2 + cMod 6 l3).toNat)])) [0, 6] rfl rfl rfl rfl (by (repeat' (first | exact rfl | exact trivial | exact sim_refl _ | refine And.intro ?_ ?_))) (by (repeat' (first | exact rfl | exact trivial | exact sim_refl _ | refine And.intro ?_ ?_))) (by (repeat' (first | exact rfl | exact trivial | exact sim_refl _ | refine And.intro ?_ ?_))) (by (repeat' (first | exact rfl | exact trivial | exact sim_refl _ | refine And.intro ?_ ?_))) ?_; exact t1)

set_option maxHeartbeats 16000000 in
theorem fe_lnn_n (l0 l1 l2 l3 : Int) {a : Option Addr} {l : List Int} {z : List Int} {Wl : List Int} (hla : (mkA (cAnd 1 l0) 4 (cAnd 1 l1) 2 4 (cMod 6 l2) 6 (cMod 6 l3) 2).W = Wl) (hU : InU Wl) (hlen : (Wl.length : Int) = sizeV (cAnd 1 l0) 4 (cAnd 1 l1) 4 (cMod 6 l2) 6 (cMod 6 l3)) (e0 : hsR (cAnd 1 l0) 4 (cAnd 1 l1) 2 4 (cMod 6 l2) 6 (cMod 6 l3) 2 0 Wl.length Wl = .ok (some l)) (e1 : hsR (cAnd 1 l0) 4 (cAnd 1 l1) 2 4 (cMod 6 l2) 6 (cMod 6 l3) 2 1 Wl.length Wl = .ok none) (eF : frR (.ok (some l)) (.ok none) = .ok (some z)) (hz1 : z.length = l.length + ([] : List Int).length) (hz2 : z.Pairwise (· < ·)) (hz3 : ∀ x ∈ z, x ∈ l ∨ x ∈ ([] : List Int)) (hz4 : z.length ≤ 24) (hM : cMod 6 l2 + cMod 6 l3 = 0) :
    Gives Tryd.prog 6 [L4 l0 l1 l2 l3, .raw (.slice a 0 0)] [pinE RTV] (Is .tt [pinE RTV]) := by
  subst hla
  have hr := cfg_rightH l0 l1 l2 l3
  have hsz2 := size_bd hr
  have hm2 := cMod6 l2
  have hm3 := cMod6 l3
  have o0 : lsOb (.ok (some l)) (mkA (cAnd 1 l0) 4 (cAnd 1 l1) 2 4 (cMod 6 l2) 6 (cMod 6 l3) 2).W.length (mkA (cAnd 1 l0) 4 (cAnd 1 l1) 2 4 (cMod 6 l2) 6 (cMod 6 l3) 2).W.length (mkA (cAnd 1 l0) 4 (cAnd 1 l1) 2 4 (cMod 6 l2) 6 (cMod 6 l3) 2).W := .inl ⟨rfl, rfl, hU⟩
  have o1 : lsOb (.ok none) (mkA (cAnd 1 l0) 4 (cAnd 1 l1) 2 4 (cMod 6 l2) 6 (cMod 6 l3) 2).W.length (mkA (cAnd 1 l0) 4 (cAnd 1 l1) 2 4 (cMod 6 l2) 6 (cMod 6 l3) 2).W.length (mkA (cAnd 1 l0) 4 (cAnd 1 l1) 2 4 (cMod 6 l2) 6 (cMod 6 l3) 2).W := .inl ⟨rfl, rfl, hU⟩
  have hF : fOb (cAnd 1 l0) 4 (cAnd 1 l1) 2 4 (cMod 6 l2) 6 (cMod 6 l3) 2 (.ok (some z)) (mkA (cAnd 1 l0) 4 (cAnd 1 l1) 2 4 (cMod 6 l2) 6 (cMod 6 l3) 2).W.length (mkA (cAnd 1 l0) 4 (cAnd 1 l1) 2 4 (cMod 6 l2) 6 (cMod 6 l3) 2).W.length (mkA (cAnd 1 l0) 4 (cAnd 1 l1) 2 4 (cMod 6 l2) 6 (cMod 6 l3) 2).W := .inl ⟨hr, rfl, rfl, hU, hlen, by omega, by rw [e0, e1]; exact eF⟩
  have hMk := mk_free hr
  rw [if_pos hM] at hMk
  have hMo : fOb (cAnd 1 l0) 4 (cAnd 1 l1) 2 4 (cMod 6 l2) 6 (cMod 6 l3) 2 (.ok none) (mkA (cAnd 1 l0) 4 (cAnd 1 l1) 2 4 (cMod 6 l2) 6 (cMod 6 l3) 2).W.length (mkA (cAnd 1 l0) 4 (cAnd 1 l1) 2 4 (cMod 6 l2) 6 (cMod 6 l3) 2).W.length (mkA (cAnd 1 l0) 4 (cAnd 1 l1) 2 4 (cMod 6 l2) 6 (cMod 6 l3) 2).W := .inl ⟨hr, rfl, rfl, mkA_in hr, by rw [mkA_len]; omega, by omega, hMk⟩
  have hbl : IntKind.i64.wrap (cMod 6 l2 + cMod 6 l3) = cMod 6 l2 + cMod 6 l3 := wi64 (by omega) (by omega)
  have hbl0 : IntKind.i64.wrap (cMod 6 l2 + cMod 6 l3) = 0 := by rw [hbl, hM]
  have hX := hXHh (mkA (cAnd 1 l0) 4 (cAnd 1 l1) 2 4 (cMod 6 l2) 6 (cMod 6 l3) 2).W (.ok (some l)) (.ok none) (.ok (some z)) (.ok none) 3
  refine gives_x hX (fn := Tryd.f6) rfl rfl rfl rfl fun ρ w => ?_
  have tail := ft_lnn (Wl := (mkA (cAnd 1 l0) 4 (cAnd 1 l1) 2 4 (cMod 6 l2) 6 (cMod 6 l3) 2).W) (l := l) (z := z) (rM := .ok none) (h0 := 3) hz1 hz2 hz3 hz4 (ρ := ρ) (w := w)
  have t1 : SS (hXHh (mkA (cAnd 1 l0) 4 (cAnd 1 l1) 2 4 (cMod 6 l2) 6 (cMod 6 l3) 2).W (.ok (some l)) (.ok none) (.ok (some z)) (.ok none) 3) (At ρ w) (Is .tt [pinE RTV]) ⟨[], [], Tryd.f6, Tryd.f6.ntmps, [pinE RTV], contF Tryd.f6 10 [], [(5, .tt), (8, .sbuf 1 1 0 l.length), (9, .niliface), (10, .nilslice), (11, .niliface), (12, .sbuf 2 1 0 z.length), (13, .niliface), (14, .nilslice)], fH_lnn l z⟩ := by
    refine sxb hX [.l] [] 4000 rfl trivial ?_
    refine ss_sub hX (T' := [(5, .tt), (8, .sbuf 1 1 0 l.length), (9, .niliface), (10, .nilslice), (11, .niliface), (12, .sbuf 2 1 0 z.length), (13, .niliface), (14, .nilslice), (16, .int .i64 0)]) (H' := fH_lnn l z) [0, 1, 2] rfl rfl rfl rfl (by (repeat' (first | exact rfl | exact trivial | exact sim_refl _ | refine And.intro ?_ ?_))) (by (repeat' (first | exact rfl | exact trivial | exact sim_refl _ | refine And.intro ?_ ?_))) (by (repeat' (first | exact rfl | exact trivial | exact sim_refl _ | refine And.intro ?_ ?_))) (by (repeat' (first | exact rfl | exact trivial | exact sim_refl _ | refine And.intro ?_ ?_))) ?_
    refine ss_loop hX (fun _ : Unit => [(5, .tt), (8, .sbuf 1 1 0 l.length), (9, .niliface), (10, .nilslice), (11, .niliface), (12, .sbuf 2 1 0 z.length), (13, .niliface), (14, .nilslice), (16, .int .i64 0)]) (fun _ => fH_lnn l z) (fun _ => True) (fun _ => 0) () trivial ?_
    intro _ _ I2 _
    refine sxb hX [.r 15] [] 4000 rfl (by (simp [conjP])) ?_
    refine sxb hX [.r 15] [.F] 4000 rfl (by (simp [conjP, addOP])) ?_
    (refine ss_sub hX (T' := fT_lnn l z) (H' := fH_lnn l z) [0, 1, 2] rfl rfl rfl rfl (by (repeat' (first | exact rfl | exact trivial | exact sim_refl _ | refine And.intro ?_ ?_))) (by (repeat' (first | exact rfl | exact trivial | exact sim_refl _ | refine And.intro ?_ ?_))) (by (repeat' (first | exact rfl | exact trivial | exact sim_refl _ | refine And.intro ?_ ?_))) (by (repeat' (first | exact rfl | exact trivial | exact sim_refl _ | refine And.intro ?_ ?_))) ?_; exact tail)
  refine sxb hX [.r 10] [] 4000 rfl (by (simp [conjP, getH, HE.so, hr, sel0, sel1, e0, e1, o0, o1, hF, hMo])) ?_
  refine sxb hX [.r 10] [.F] 4000 rfl (by (simp [conjP])) ?_
  refine sxb hX [.r 10] [.F] 4000 rfl (by (simp [conjP, addOP, hbl0])) ?_
  (refine ss_sub hX (T' := [(5, .tt), (8, .sbuf 1 1 0 l.length), (9, .niliface), (10, .nilslice), (11, .niliface), (12, .sbuf 2 1 0 z.length), (13, .niliface), (14, .nilslice)]) (H' := fH_lnn l z) [0, 4, 5] rfl rfl rfl rfl (by (repeat' (first | exact rfl | exact trivial | exact sim_refl _ | refine And.intro ?_ ?_))) (by (repeat' (first | exact rfl | exact trivial | exact sim_refl _ | refine And.intro ?_ ?_))) (by (repeat' (first | exact rfl | exact trivial | exact sim_refl _ | refine And.intro ?_ ?_))) (by (repeat' (first | exact rfl | exact trivial | exact sim_refl _ | refine And.intro ?_ ?_))) ?_; exact t1)

set_option maxHeartbeats 16000000 in
theorem fe_lnn_g (l0 l1 l2 l3 : Int) {a : Option Addr} {l : List Int} {z : List Int} {Wl : List Int} (hla : (mkA (cAnd 1 l0) 4 (cAnd 1 l1) 2 4 (cMod 6 l2) 6 (cMod 6 l3) 2).W = Wl) (hU : InU Wl) (hlen : (Wl.length : Int) = sizeV (cAnd 1 l0) 4 (cAnd 1 l1) 4 (cMod 6 l2) 6 (cMod 6 l3)) (e0 : hsR (cAnd 1 l0) 4 (cAnd 1 l1) 2 4 (cMod 6 l2) 6 (cMod 6 l3) 2 0 Wl.length Wl = .ok (some l)) (e1 : hsR (cAnd 1 l0) 4 (cAnd 1 l1) 2 4 (cMod 6 l2) 6 (cMod 6 l3) 2 1 Wl.length Wl = .ok none) (eF : frR (.ok (some l)) (.ok none) = .ok (some z)) (hz1 : z.length = l.length + ([] : List Int).length) (hz2 : z.Pairwise (· < ·)) (hz3 : ∀ x ∈ z, x ∈ l ∨ x ∈ ([] : List Int)) (hz4 : z.length ≤ 24) (hM : ¬ cMod 6 l2 + cMod 6 l3 = 0) :
    Gives Tryd.prog 6 [L4 l0 l1 l2 l3, .raw (.slice a 0 0)] [pinE RTV] (Is .tt [pinE RTV]) := by
  subst hla
  have hr := cfg_rightH l0 l1 l2 l3
  have hsz2 := size_bd hr
  have hm2 := cMod6 l2
  have hm3 := cMod6 l3
  have o0 : lsOb (.ok (some l)) (mkA (cAnd 1 l0) 4 (cAnd 1 l1) 2 4 (cMod 6 l2) 6 (cMod 6 l3) 2).W.length (mkA (cAnd 1 l0) 4 (cAnd 1 l1) 2 4 (cMod 6 l2) 6 (cMod 6 l3) 2).W.length (mkA (cAnd 1 l0) 4 (cAnd 1 l1) 2 4 (cMod 6 l2) 6 (cMod 6 l3) 2).W := .inl ⟨rfl, rfl, hU⟩
  have o1 : lsOb (.ok none) (mkA (cAnd 1 l0) 4 (cAnd 1 l1) 2 4 (cMod 6 l2) 6 (cMod 6 l3) 2).W.length (mkA (cAnd 1 l0) 4 (cAnd 1 l1) 2 4 (cMod 6 l2) 6 (cMod 6 l3) 2).W.length (mkA (cAnd 1 l0) 4 (cAnd 1 l1) 2 4 (cMod 6 l2) 6 (cMod 6 l3) 2).W := .inl ⟨rfl, rfl, hU⟩
  have hF : fOb (cAnd 1 l0) 4 (cAnd 1 l1) 2 4 (cMod 6 l2) 6 (cMod 6 l3) 2 (.ok (some z)) (mkA (cAnd 1 l0) 4 (cAnd 1 l1) 2 4 (cMod 6 l2) 6 (cMod 6 l3) 2).W.length (mkA (cAnd 1 l0) 4 (cAnd 1 l1) 2 4 (cMod 6 l2) 6 (cMod 6 l3) 2).W.length (mkA (cAnd 1 l0) 4 (cAnd 1 l1) 2 4 (cMod 6 l2) 6 (cMod 6 l3) 2).W := .inl ⟨hr, rfl, rfl, hU, hlen, by omega, by rw [e0, e1]; exact eF⟩
  have hMk := mk_free hr
  rw [if_neg hM] at hMk
  have hMo : fOb (cAnd 1 l0) 4 (cAnd 1 l1) 2 4 (cMod 6 l2) 6 (cMod 6 l3) 2 (.ok (some (rngL (cMod 6 l2 + cMod 6 l3).toNat))) (mkA (cAnd 1 l0) 4 (cAnd 1 l1) 2 4 (cMod 6 l2) 6 (cMod 6 l3) 2).W.length (mkA (cAnd 1 l0) 4 (cAnd 1 l1) 2 4 (cMod 6 l2) 6 (cMod 6 l3) 2).W.length (mkA (cAnd 1 l0) 4 (cAnd 1 l1) 2 4 (cMod 6 l2) 6 (cMod 6 l3) 2).W := .inl ⟨hr, rfl, rfl, mkA_in hr, by rw [mkA_len]; omega, by omega, hMk⟩
  have hbl : IntKind.i64.wrap (cMod 6 l2 + cMod 6 l3) = cMod 6 l2 + cMod 6 l3 := wi64 (by omega) (by omega)
  skip
  have hX := hXHh (mkA (cAnd 1 l0) 4 (cAnd 1 l1) 2 4 (cMod 6 l2) 6 (cMod 6 l3) 2).W (.ok (some l)) (.ok none) (.ok (some z)) (.ok (some (rngL (cMod 6 l2 + cMod 6 l3).toNat))) 3
  refine gives_x hX (fn := Tryd.f6) rfl rfl rfl rfl fun ρ w => ?_
  have tail := ft_lnn (Wl := (mkA (cAnd 1 l0) 4 (cAnd 1 l1) 2 4 (cMod 6 l2) 6 (cMod 6 l3) 2).W) (l := l) (z := z) (rM := .ok (some (rngL (cMod 6 l2 + cMod 6 l3).toNat))) (h0 := 3) hz1 hz2 hz3 hz4 (ρ := ρ) (w := w)
  have t1 : SS (hXHh (mkA (cAnd 1 l0) 4 (cAnd 1 l1) 2 4 (cMod 6 l2) 6 (cMod 6 l3) 2).W (.ok (some l)) (.ok none) (.ok (some z)) (.ok (some (rngL (cMod 6 l2 + cMod 6 l3).toNat))) 3) (At ρ w) (Is .tt [pinE RTV]) ⟨[], [], Tryd.f6, Tryd.f6.ntmps, [pinE RTV], contF Tryd.f6 10 [], [(5, .tt), (8, .sbuf 1 1 0 l.length), (9, .niliface), (10, .nilslice), (11, .niliface), (12, .sbuf 2 1 0 z.length), (13, .niliface), (14, .sbuf 3 1 0 (rngL (cMod 6 l2 + cMod 6 l3).toNat).length)], (fH_lnn l z ++ [IB (rngL (cMod 6 l2 + cMod 6 l3).toNat)])⟩ := by
    refine sxb hX [.l] [] 4000 rfl trivial ?_
    have hrl := rng_len (cMod 6 l2 + cMod 6 l3).toNat
    have htn : (((cMod 6 l2 + cMod 6 l3).toNat : Nat) : Int) = cMod 6 l2 + cMod 6 l3 := by omega
    have hrg := fun (i : Nat) (h : i < (cMod 6 l2 + cMod 6 l3).toNat) => rng_get h
    generalize rngL (cMod 6 l2 + cMod 6 l3).toNat = g at *
    refine ss_sub hX (T' := [(5, .tt), (8, .sbuf 1 1 0 l.length), (9, .niliface), (10, .nilslice), (11, .niliface), (12, .sbuf 2 1 0 z.length), (13, .niliface), (14, .sbuf 3 1 0 g.length), (16, .int .i64 ((0 : Nat) : Int))]) (H' := (fH_lnn l z ++ [IB (g)])) [0, 1, 2, 3] rfl rfl rfl rfl (by (repeat' (first | exact rfl | exact trivial | exact sim_refl _ | refine And.intro ?_ ?_))) (by (repeat' (first | exact rfl | exact trivial | exact sim_refl _ | refine And.intro ?_ ?_))) (by (repeat' (first | exact rfl | exact trivial | exact sim_refl _ | refine And.intro ?_ ?_))) (by (repeat' (first | exact rfl | exact trivial | exact sim_refl _ | refine And.intro ?_ ?_))) ?_
    refine ss_loop hX (fun i : Nat => [(5, .tt), (8, .sbuf 1 1 0 l.length), (9, .niliface), (10, .nilslice), (11, .niliface), (12, .sbuf 2 1 0 z.length), (13, .niliface), (14, .sbuf 3 1 0 g.length), (16, .int .i64 (i : Int))]) (fun _ => (fH_lnn l z ++ [IB (g)])) (fun i => i ≤ g.length) (fun i => g.length - i) 0 (Nat.zero_le _) ?_
    intro i hi0 I2 back
    have hi : i ≤ g.length := hi0
    by_cases h1 : i < g.length
    · have h2 : (i : Int) < (g.length : Int) := by omega
      have h3 := hrg i (by omega)
      have h4 : IntKind.i64.wrap ((i : Int) + 1) = (i : Int) + 1 := wi64 (by omega) (by omega)
      refine sx hX [] 4000 rfl (by (simp [conjP])) ?_
      refine sx hX [.T] 4000 rfl (by (simp [conjP, h1, h2, cellOff])) ?_
      refine sx hX [.F] 4000 rfl (by (simp [-List.getD_eq_getElem?_getD, -List.length_eq_zero_iff, conjP, addOP, h3, h4, cellOff])) ?_
      (refine back (i + 1) ?q1 ?q2 _ _ _ (sub_of [0, 1, 2, 3] rfl rfl rfl rfl ?tt (by (repeat' (first | exact rfl | exact trivial | exact sim_refl _ | refine And.intro ?_ ?_))) (by (repeat' (first | exact rfl | exact trivial | exact sim_refl _ | refine And.intro ?_ ?_))) (by (repeat' (first | exact rfl | exact trivial | exact sim_refl _ | refine And.intro ?_ ?_)))); (case tt => refine ⟨by (repeat' (first | exact rfl | exact trivial | exact sim_refl _ | refine And.intro ?_ ?_)), by (repeat' (first | exact rfl | exact trivial | exact sim_refl _ | refine And.intro ?_ ?_)), by (repeat' (first | exact rfl | exact trivial | exact sim_refl _ | refine And.intro ?_ ?_)), by (repeat' (first | exact rfl | exact trivial | exact sim_refl _ | refine And.intro ?_ ?_)), by (repeat' (first | exact rfl | exact trivial | exact sim_refl _ | refine And.intro ?_ ?_)), by (repeat' (first | exact rfl | exact trivial | exact sim_refl _ | refine And.intro ?_ ?_)), by (repeat' (first | exact rfl | exact trivial | exact sim_refl _ | refine And.intro ?_ ?_)), by (repeat' (first | exact rfl | exact trivial | exact sim_refl _ | refine And.intro ?_ ?_)), ⟨rfl, by rw [h4]; omega⟩, trivial⟩); (case q1 => exact h1); (case q2 => omega))
    · have h2 : ¬ (i : Int) < (g.length : Int) := by omega
      refine sxb hX [.r 15] [] 4000 rfl (by (simp [conjP])) ?_
      refine sxb hX [.r 15] [.F] 4000 rfl (by (simp [conjP, addOP, h2])) ?_
      (refine ss_sub hX (T' := fT_lnn l z) (H' := fH_lnn l z) [0, 1, 2] rfl rfl rfl rfl (by (repeat' (first | exact rfl | exact trivial | exact sim_refl _ | refine And.intro ?_ ?_))) (by (repeat' (first | exact rfl | exact trivial | exact sim_refl _ | refine And.intro ?_ ?_))) (by (repeat' (first | exact rfl | exact trivial | exact sim_refl _ | refine And.intro ?_ ?_))) (by (repeat' (first | exact rfl | exact trivial | exact sim_refl _ | refine And.intro ?_ ?_))) ?_; exact tail)
  have hrl := rng_len (cMod 6 l2 + cMod 6 l3).toNat
  have htn : (((cMod 6 l2 + cMod 6 l3).toNat : Nat) : Int) = cMod 6 l2 + cMod 6 l3 := by omega
  refine sxb hX [.r 10] [] 4000 rfl (by (simp [conjP, getH, HE.so, hr, sel0, sel1, e0, e1, o0, o1, hF, hMo])) ?_
  refine sxb hX [.r 10] [.F] 4000 rfl (by (simp [conjP])) ?_
  refine sxb hX [.r 10] [.F] 4000 rfl (by (simp [conjP, addOP, hbl, hrl, htn])) ?_
  (refine ss_sub hX (T' := [(5, .tt), (8, .sbuf 1 1 0 l.length), (9, .niliface), (10, .nilslice), (11, .niliface), (12, .sbuf 2 1 0 z.length), (13, .niliface), (14, .sbuf 3 1 0 (rngL (cMod 6 l2 + cMod 6 l3).toNat).length)]) (H' := (fH_lnn l z ++ [IB (rngL (cMod 6 l2 + cMod 6 l3).toNat)])) [0, 4, 5, 8] rfl rfl rfl rfl (by (repeat' (first | exact rfl | exact trivial | exact sim_refl _ | refine And.intro ?_ ?_))) (by (repeat' (first | exact rfl | exact trivial | exact sim_refl _ | refine And.intro ?_ ?_))) (by (repeat' (first | exact rfl | exact trivial | exact sim_refl _ | refine And.intro ?_ ?_))) (by (repeat' (first | exact rfl | exact trivial | exact sim_refl _ | refine And.intro ?_ ?_))) ?_; exact t1)

set_option maxHeartbeats 16000000 in
theorem fe_nmn_n (l0 l1 l2 l3 : Int) {a : Option Addr} {m : List Int} {z : List Int} {Wl : List Int} (hla : (mkA (cAnd 1 l0) 4 (cAnd 1 l1) 2 4 (cMod 6 l2) 6 (cMod 6 l3) 2).W = Wl) (hU : InU Wl) (hlen : (Wl.length : Int) = sizeV (cAnd 1 l0) 4 (cAnd 1 l1) 4 (cMod 6 l2) 6 (cMod 6 l3)) (e0 : hsR (cAnd 1 l0) 4 (cAnd 1 l1) 2 4 (cMod 6 l2) 6 (cMod 6 l3) 2 0 Wl.length Wl = .ok none) (e1 : hsR (cAnd 1 l0) 4 (cAnd 1 l1) 2 4 (cMod 6 l2) 6 (cMod 6 l3) 2 1 Wl.length Wl = .ok (some m)) (eF : frR (.ok none) (.ok (some m)) = .ok (some z)) (hz1 : z.length = ([] : List Int).length + m.length) (hz2 : z.Pairwise (· < ·)) (hz3 : ∀ x ∈ z, x ∈ ([] : List Int) ∨ x ∈ m) (hz4 : z.length ≤ 24) (hM : cMod 6 l2 + cMod 6 l3 = 0) :
    Gives Tryd.prog 6 [L4 l0 l1 l2 l3, .raw (.slice a 0 0)] [pinE RTV] (Is .tt [pinE RTV]) := by
  subst hla
  have hr := cfg_rightH l0 l1 l2 l3
  have hsz2 := size_bd hr
  have hm2 := cMod6 l2
  have hm3 := cMod6 l3
  have o0 : lsOb (.ok none) (mkA (cAnd 1 l0) 4 (cAnd 1 l1) 2 4 (cMod 6 l2) 6 (cMod 6 l3) 2).W.length (mkA (cAnd 1 l0) 4 (cAnd 1 l1) 2 4 (cMod 6 l2) 6 (cMod 6 l3) 2).W.length (mkA (cAnd 1 l0) 4 (cAnd 1 l1) 2 4 (cMod 6 l2) 6 (cMod 6 l3) 2).W := .inl ⟨rfl, rfl, hU⟩
  have o1 : lsOb (.ok (some m)) (mkA (cAnd 1 l0) 4 (cAnd 1 l1) 2 4 (cMod 6 l2) 6 (cMod 6 l3) 2).W.length (mkA (cAnd 1 l0) 4 (cAnd 1 l1) 2 4 (cMod 6 l2) 6 (cMod 6 l3) 2).W.length (mkA (cAnd 1 l0) 4 (cAnd 1 l1) 2 4 (cMod 6 l2) 6 (cMod 6 l3) 2).W := .inl ⟨rfl, rfl, hU⟩
  have hF : fOb (cAnd 1 l0) 4 (cAnd 1 l1) 2 4 (cMod 6 l2) 6 (cMod 6 l3) 2 (.ok (some z)) (mkA (cAnd 1 l0) 4 (cAnd 1 l1) 2 4 (cMod 6 l2) 6 (cMod 6 l3) 2).W.length (mkA (cAnd 1 l0) 4 (cAnd 1 l1) 2 4 (cMod 6 l2) 6 (cMod 6 l3) 2).W.length (mkA (cAnd 1 l0) 4 (cAnd 1 l1) 2 4 (cMod 6 l2) 6 (cMod 6 l3) 2).W := .inl ⟨hr, rfl, rfl, hU, hlen, by omega, by rw [e0, e1]; exact eF⟩
  have hMk := mk_free hr
  rw [if_pos hM] at hMk
  have hMo : fOb (cAnd 1 l0) 4 (cAnd 1 l1) 2 4 (cMod 6 l2) 6 (cMod 6 l3) 2 (.ok none) (mkA (cAnd 1 l0) 4 (cAnd 1 l1) 2 4 (cMod 6 l2) 6 (cMod 6 l3) 2).W.length (mkA (cAnd 1 l0) 4 (cAnd 1 l1) 2 4 (cMod 6 l2) 6 (cMod 6 l3) 2).W.length (mkA (cAnd 1 l0) 4 (cAnd 1 l1) 2 4 (cMod 6 l2) 6 (cMod 6 l3) 2).W := .inl ⟨hr, rfl, rfl, mkA_in hr, by rw [mkA_len]; omega, by omega, hMk⟩
  have hbl : IntKind.i64.wrap (cMod 6 l2 + cMod 6 l3) = cMod 6 l2 + cMod 6 l3 := wi64 (by omega) (by omega)
  have hbl0 : IntKind.i64.wrap (cMod 6 l2 + cMod 6 l3) = 0 := by rw [hbl, hM]
  have hX := hXHh (mkA (cAnd 1 l0) 4 (cAnd 1 l1) 2 4 (cMod 6 l2) 6 (cMod 6 l3) 2).W (.ok none) (.ok (some m)) (.ok (some z)) (.ok none) 3
  refine gives_x hX (fn := Tryd.f6) rfl rfl rfl rfl fun ρ w => ?_
  have tail := ft_nmn (Wl := (mkA (cAnd 1 l0) 4 (cAnd 1 l1) 2 4 (cMod 6 l2) 6 (cMod 6 l3) 2).W) (m := m) (z := z) (rM := .ok none) (h0 := 3) hz1 hz2 hz3 hz4 (ρ := ρ) (w := w)
  have t1 : SS (hXHh (mkA (cAnd 1 l0) 4 (cAnd 1 l1) 2 4 (cMod 6 l2) 6 (cMod 6 l3) 2).W (.ok none) (.ok (some m)) (.ok (some z)) (.ok none) 3) (At ρ w) (Is .tt [pinE RTV]) ⟨[], [], Tryd.f6, Tryd.f6.ntmps, [pinE RTV], contF Tryd.f6 10 [], [(5, .tt), (8, .nilslice), (9, .niliface), (10, .sbuf 1 1 0 m.length), (11, .niliface), (12, .sbuf 2 1 0 z.length), (13, .niliface), (14, .nilslice)], fH_nmn m z⟩ := by
    refine sxb hX [.l] [] 4000 rfl trivial ?_
    refine ss_sub hX (T' := [(5, .tt), (8, .nilslice), (9, .niliface), (10, .sbuf 1 1 0 m.length), (11, .niliface), (12, .sbuf 2 1 0 z.length), (13, .niliface), (14, .nilslice), (16, .int .i64 0)]) (H' := fH_nmn m z) [0, 1, 2] rfl rfl rfl rfl (by (repeat' (first | exact rfl | exact trivial | exact sim_refl _ | refine And.intro ?_ ?_))) (by (repeat' (first | exact rfl | exact trivial | exact sim_refl _ | refine And.intro ?_ ?_))) (by (repeat' (first | exact rfl | exact trivial | exact sim_refl _ | refine And.intro ?_ ?_))) (by (repeat' (first | exact rfl | exact trivial | exact sim_refl _ | refine And.intro ?_ ?_))) ?_
    refine ss_loop hX (fun _ : Unit => [(5, .tt), (8, .nilslice), (9, .niliface), (10, .sbuf 1 1 0 m.length), (11, .niliface), (12, .sbuf 2 1 0 z.length), (13, .niliface), (14, .nilslice), (16, .int .i64 0)]) (fun _ => fH_nmn m z) (fun _ => True) (fun _ => 0) () trivial ?_
    intro _ _ I2 _
    refine sxb hX [.r 15] [] 4000 rfl (by (simp [conjP])) ?_
    refine sxb hX [.r 15] [.F] 4000 rfl (by (simp [conjP, addOP])) ?_
    (refine ss_sub hX (T' := fT_nmn m z) (H' := fH_nmn m z) [0, 1, 2] rfl rfl rfl rfl (by (repeat' (first | exact rfl | exact trivial | exact sim_refl _ | refine And.intro ?_ ?_))) (by (repeat' (first | exact rfl | exact trivial | exact sim_refl _ | refine And.intro ?_ ?_))) (by (repeat' (first | exact rfl | exact trivial | exact sim_refl _ | refine And.intro ?_ ?_))) (by (repeat' (first | exact rfl | exact trivial | exact sim_refl _ | refine And.intro ?_ ?_))) ?_; exact tail)
  refine sxb hX [.r 10] [] 4000 rfl (by (simp [conjP, getH, HE.so, hr, sel0, sel1, e0, e1, o0, o1, hF, hMo])) ?_
  refine sxb hX [.r 10] [.F] 4000 rfl (by (simp [conjP])) ?_
  refine sxb hX [.r 10] [.F] 4000 rfl (by (simp [conjP, addOP, hbl0])) ?_
  (refine ss_sub hX (T' := [(5, .tt), (8, .nilslice), (9, .niliface), (10, .sbuf 1 1 0 m.length), (11, .niliface), (12, .sbuf 2 1 0 z.length), (13, .niliface), (14, .nilslice)]) (H' := fH_nmn m z) [0, 4, 5] rfl rfl rfl rfl (by (repeat' (first | exact rfl | exact trivial | exact sim_refl _ | refine And.intro ?_ ?_))) (by (repeat' (first | exact rfl | exact trivial | exact sim_refl _ | refine And.intro ?_ ?_))) (by (repeat' (first | exact rfl | exact trivial | exact sim_refl _ | refine And.intro ?_ ?_))) (by (repeat' (first | exact rfl | exact trivial | exact sim_refl _ | refine And.intro ?_ ?_))) ?_; exact t1)

set_option maxHeartbeats 16000000 in
theorem fe_nmn_g (l0 l1 l2 l3 : Int) {a : Option Addr} {m : List Int} {z : List Int} {Wl : List Int} (hla : (mkA (cAnd 1 l0) 4 (cAnd 1 l1) 2 4 (cMod 6 l2) 6 (cMod 6 l3) 2).W = Wl) (hU : InU Wl) (hlen : (Wl.length : Int) = sizeV (cAnd 1 l0) 4 (cAnd 1 l1) 4 (cMod 6 l2) 6 (cMod 6 l3)) (e0 : hsR (cAnd 1 l0) 4 (cAnd 1 l1) 2 4 (cMod 6 l2) 6 (cMod 6 l3) 2 0 Wl.length Wl = .ok none) (e1 : hsR (cAnd 1 l0) 4 (cAnd 1 l1) 2 4 (cMod 6 l2) 6 (cMod 6 l3) 2 1 Wl.length Wl = .ok (some m)) (eF : frR (.ok none) (.ok (some m)) = .ok (some z)) (hz1 : z.length = ([] : List Int).length + m.length) (hz2 : z.Pairwise (· < ·)) (hz3 : ∀ x ∈ z, x ∈ ([] : List Int) ∨ x ∈ m) (hz4 : z.length ≤ 24) (hM : ¬ cMod 6 l2 + cMod 6 l3 = 0) :
    Gives Tryd.prog 6 [L4 l0 l1 l2 l3, .raw (.slice a 0 0)] [pinE RTV] (Is .tt [pinE RTV]) := by
  subst hla
  have hr := cfg_rightH l0 l1 l2 l3
  have hsz2 := size_bd hr
  have hm2 := cMod6 l2
  have hm3 := cMod6 l3
  have o0 : lsOb (.ok none) (mkA (cAnd 1 l0) 4 (cAnd 1 l1) 2 4 (cMod 6 l2) 6 (cMod 6 l3) 2).W.length (mkA (cAnd 1 l0) 4 (cAnd 1 l1) 2 4 (cMod 6 l2) 6 (cMod 6 l3) 2).W.length (mkA (cAnd 1 l0) 4 (cAnd 1 l1) 2 4 (cMod 6 l2) 6 (cMod 6 l3) 2).W := .inl ⟨rfl, rfl, hU⟩
  have o1 : lsOb (.ok (some m)) (mkA (cAnd 1 l0) 4 (cAnd 1 l1) 2 4 (cMod 6 l2) 6 (cMod 6 l3) 2).W.length (mkA (cAnd 1 l0) 4 (cAnd 1 l1) 2 4 (cMod 6 l2) 6 (cMod 6 l3) 2).W.length (mkA (cAnd 1 l0) 4 (cAnd 1 l1) 2 4 (cMod 6 l2) 6 (cMod 6 l3) 2).W := .inl ⟨rfl, rfl, hU⟩
  have hF : fOb (cAnd 1 l0) 4 (cAnd 1 l1) 2 4 (cMod 6 l2) 6 (cMod 6 l3) 2 (.ok (some z)) (mkA (cAnd 1 l0) 4 (cAnd 1 l1) 2 4 (cMod 6 l2) 6 (cMod 6 l3) 2).W.length (mkA (cAnd 1 l0) 4 (cAnd 1 l1) 2 4 (cMod 6 l2) 6 (cMod 6 l3) 2).W.length (mkA (cAnd 1 l0) 4 (cAnd 1 l1) 2 4 (cMod 6 l2) 6 (cMod 6 l3) 2).W := .inl ⟨hr, rfl, rfl, hU, hlen, by omega, by rw [e0, e1]; exact eF⟩
  have hMk := mk_free hr
  rw [if_neg hM] at hMk
  have hMo : fOb (cAnd 1 l0) 4 (cAnd 1 l1) 2 4 (cMod 6 l2) 6 (cMod 6 l3) 2 (.ok (some (rngL (cMod 6 l2 + cMod 6 l3).toNat))) (mkA (cAnd 1 l0) 4 (cAnd 1 l1) 2 4 (cMod 6 l2) 6 (cMod 6 l3) 2).W.length (mkA (cAnd 1 l0) 4 (cAnd 1 l1) 2 4 (cMod 6 l2) 6 (cMod 6 l3) 2).W.length (mkA (cAnd 1 l0) 4 (cAnd 1 l1) 2 4 (cMod 6 l2) 6 (cMod 6 l3) 2).W := .inl ⟨hr, rfl, rfl, mkA_in hr, by rw [mkA_len]; omega, by omega, hMk⟩
  have hbl : IntKind.i64.wrap (cMod 6 l2 + cMod 6 l3) = cMod 6 l2 + cMod 6 l3 := wi64 (by omega) (by omega)
  skip
  have hX := hXHh (mkA (cAnd 1 l0) 4 (cAnd 1 l1) 2 4 (cMod 6 l2) 6 (cMod 6 l3) 2).W (.ok none) (.ok (some m)) (.ok (some z)) (.ok (some (rngL (cMod 6 l2 + cMod 6 l3).toNat))) 3
  refine gives_x hX (fn := Tryd.f6) rfl rfl rfl rfl fun ρ w => ?_
  have tail := ft_nmn (Wl := (mkA (cAnd 1 l0) 4 (cAnd 1 l1) 2 4 (cMod 6 l2) 6 (cMod 6 l3) 2).W) (m := m) (z := z) (rM := .ok (some (rngL (cMod 6 l2 + cMod 6 l3).toNat))) (h0 := 3) hz1 hz2 hz3 hz4 (ρ := ρ) (w := w)
  have t1 : SS (hXHh (mkA (cAnd 1 l0) 4 (cAnd 1 l1) 2 4 (cMod 6 l2) 6 (cMod 6 l3) 2).W (.ok none) (.ok (some m)) (.ok (some z)) (.ok (some (rngL (cMod 6 l2 + cMod 6 l3).toNat))) 3) (At ρ w) (Is .tt [pinE RTV]) ⟨[], [], Tryd.f6, Tryd.f6.ntmps, [pinE RTV], contF Tryd.f6 10 [], [(5, .tt), (8, .nilslice), (9, .niliface), (10, .sbuf 1 1 0 m.length), (11, .niliface), (12, .sbuf 2 1 0 z.length), (13, .niliface), (14, .sbuf 3 1 0 (rngL (cMod 6 l2 + cMod 6 l3).toNat).length)], (fH_nmn m z ++ [IB (rngL (cMod 6 l2 + cMod 6 l3).toNat)])⟩ := by
    refine sxb hX [.l] [] 4000 rfl trivial ?_
    have hrl := rng_len (cMod 6 l2 + cMod 6 l3).toNat
    have htn : (((cMod 6 l2 + cMod 6 l3).toNat : Nat) : Int) = cMod 6 l2 + cMod 6 l3 := by omega
    have hrg := fun (i : Nat) (h : i < (cMod 6 l2 + cMod 6 l3).toNat) => rng_get h
    generalize rngL (cMod 6 l2 + cMod 6 l3).toNat = g at *
    refine ss_sub hX (T' := [(5, .tt), (8, .nilslice), (9, .niliface), (10, .sbuf 1 1 0 m.length), (11, .niliface), (12, .sbuf 2 1 0 z.length), (13, .niliface), (14, .sbuf 3 1 0 g.length), (16, .int .i64 ((0 : Nat) : Int))]) (H' := (fH_nmn m z ++ [IB (g)])) [0, 1, 2, 3] rfl rfl rfl rfl (by (repeat' (first | exact rfl | exact trivial | exact sim_refl _ | refine And.intro ?_ ?_))) (by (repeat' (first | exact rfl | exact trivial | exact sim_refl _ | refine And.intro ?_ ?_))) (by (repeat' (first | exact rfl | exact trivial | exact sim_refl _ | refine And.intro ?_ ?_))) (by (repeat' (first | exact rfl | exact trivial | exact sim_refl _ | refine And.intro ?_ ?_))) ?_
    refine ss_loop hX (fun i : Nat => [(5, .tt), (8, .nilslice), (9, .niliface), (10, .sbuf 1 1 0 m.length), (11, .niliface), (12, .sbuf 2 1 0 z.length), (13, .niliface), (14, .sbuf 3 1 0 g.length), (16, .int .i64 (i : Int))]) (fun _ => (fH_nmn m z ++ [IB (g)])) (fun i => i ≤ g.length) (fun i => g.length - i) 0 (Nat.zero_le _) ?_
    intro i hi0 I2 back
    have hi : i ≤ g.length := hi0
    by_cases h1 : i < g.length
    · have h2 : (i : Int) < (g.length : Int) := by omega
      have h3 := hrg i (by omega)
      have h4 : IntKind.i64.wrap ((i : Int) + 1) = (i : Int) + 1 := wi64 (by omega) (by omega)
      refine sx hX [] 4000 rfl (by (simp [conjP])) ?_
      refine sx hX [.T] 4000 rfl (by (simp [conjP, h1, h2, cellOff])) ?_
      refine sx hX [.F] 4000 rfl (by (simp [-List.getD_eq_getElem?_getD, -List.length_eq_zero_iff, conjP, addOP, h3, h4, cellOff])) ?_
      (refine back (i + 1) ?q1 ?q2 _ _ _ (sub_of [0, 1, 2, 3] rfl rfl rfl rfl ?tt (by (repeat' (first | exact rfl | exact trivial | exact sim_refl _ | refine And.intro ?_ ?_))) (by (repeat' (first | exact rfl | exact trivial | exact sim_refl _ | refine And.intro ?_ ?_))) (by (repeat' (first | exact rfl | exact trivial | exact sim_refl _ | refine And.intro ?_ ?_)))); (case tt => refine ⟨by (repeat' (first | exact rfl | exact trivial | exact sim_refl _ | refine And.intro ?_ ?_)), by (repeat' (first | exact rfl | exact trivial | exact sim_refl _ | refine And.intro ?_ ?_)), by (repeat' (first | exact rfl | exact trivial | exact sim_refl _ | refine And.intro ?_ ?_)), by (repeat' (first | exact rfl | exact trivial | exact sim_refl _ | refine And.intro ?_ ?_)), by (repeat' (first | exact rfl | exact trivial | exact sim_refl _ | refine And.intro ?_ ?_)), by (repeat' (first | exact rfl | exact trivial | exact sim_refl _ | refine And.intro ?_ ?_)), by (repeat' (first | exact rfl | exact trivial | exact sim_refl _ | refine And.intro ?_ ?_)), by (repeat' (first | exact rfl | exact trivial | exact sim_refl _ | refine And.intro ?_ ?_)), ⟨rfl, by rw [h4]; omega⟩, trivial⟩); (case q1 => exact h1); (case q2 => omega))
    · have h2 : ¬ (i : Int) < (g.length : Int) := by omega
      refine sxb hX [.r 15] [] 4000 rfl (by (simp [conjP])) ?_
      refine sxb hX [.r 15] [.F] 4000 rfl (by (simp [conjP, addOP, h2])) ?_
      (refine ss_sub hX (T' := fT_nmn m z) (H' := fH_nmn m z) [0, 1, 2] rfl rfl rfl rfl (by (repeat' (first | exact rfl | exact trivial | exact sim_refl _ | refine And.intro ?_ ?_))) (by (repeat' (first | exact rfl | exact trivial | exact sim_refl _ | refine And.intro ?_ ?_))) (by (repeat' (first | exact rfl | exact trivial | exact sim_refl _ | refine And.intro ?_ ?_))) (by (repeat' (first | exact rfl | exact trivial | exact sim_refl _ | refine And.intro ?_ ?_))) ?_; exact tail)
  have hrl := rng_len (cMod 6 l2 + cMod 6 l3).toNat
  have htn : (((cMod 6 l2 + cMod 6 l3).toNat : Nat) : Int) = cMod 6 l2 + cMod 6 l3 := by omega
  refine sxb hX [.r 10] [] 4000 rfl (by (simp [conjP, getH, HE.so, hr, sel0, sel1, e0, e1, o0, o1, hF, hMo])) ?_
  refine sxb hX [.r 10] [.F] 4000 rfl (by (simp [conjP])) ?_
  refine sxb hX [.r 10] [.F] 4000 rfl (by (simp [conjP, addOP, hbl, hrl, htn])) ?_
  (refine ss_sub hX (T' := [(5, .tt), (8, .nilslice), (9, .niliface), (10, .sbuf 1 1 0 m.length), (11, .niliface), (12, .sbuf 2 1 0 z.length), (13, .niliface), (14, .sbuf 3 1 0 (rngL (cMod 6 l2 + cMod 6 l3).toNat).length)]) (H' := (fH_nmn m z ++ [IB (rngL (cMod 6 l2 + cMod 6 l3).toNat)])) [0, 4, 5, 8] rfl rfl rfl rfl (by (repeat' (first | exact rfl | exact trivial | exact sim_refl _ | refine And.intro ?_ ?_))) (by (repeat' (first | exact rfl | exact trivial | exact sim_refl _ | refine And.intro ?_ ?_))) (by (repeat' (first | exact rfl | exact trivial | exact sim_refl _ | refine And.intro ?_ ?_))) (by (repeat' (first | exact rfl | exact trivial | exact sim_refl _ | refine And.intro ?_ ?_))) ?_; exact t1)

set_option maxHeartbeats 16000000 in
theorem fe_lmn_n (l0 l1 l2 l3 : Int) {a : Option Addr} {l : List Int} {m : List Int} {z : List Int} {Wl : List Int} (hla : (mkA (cAnd 1 l0) 4 (cAnd 1 l1) 2 4 (cMod 6 l2) 6 (cMod 6 l3) 2).W = Wl) (hU : InU Wl) (hlen : (Wl.length : Int) = sizeV (cAnd 1 l0) 4 (cAnd 1 l1) 4 (cMod 6 l2) 6 (cMod 6 l3)) (e0 : hsR (cAnd 1 l0) 4 (cAnd 1 l1) 2 4 (cMod 6 l2) 6 (cMod 6 l3) 2 0 Wl.length Wl = .ok (some l)) (e1 : hsR (cAnd 1 l0) 4 (cAnd 1 l1) 2 4 (cMod 6 l2) 6 (cMod 6 l3) 2 1 Wl.length Wl = .ok (some m)) (eF : frR (.ok (some l)) (.ok (some m)) = .ok (some z)) (hz1 : z.length = l.length + m.length) (hz2 : z.Pairwise (· < ·)) (hz3 : ∀ x ∈ z, x ∈ l ∨ x ∈ m) (hz4 : z.length ≤ 24) (hM : cMod 6 l2 + cMod 6 l3 = 0) :
    Gives Tryd.prog 6 [L4 l0 l1 l2 l3, .raw (.slice a 0 0)] [pinE RTV] (Is .tt [pinE RTV]) := by
  subst hla
  have hr := cfg_rightH l0 l1 l2 l3
  have hsz2 := size_bd hr
  have hm2 := cMod6 l2
  have hm3 := cMod6 l3
  have o0 : lsOb (.ok (some l)) (mkA (cAnd 1 l0) 4 (cAnd 1 l1) 2 4 (cMod 6 l2) 6 (cMod 6 l3) 2).W.length (mkA (cAnd 1 l0) 4 (cAnd 1 l1) 2 4 (cMod 6 l2) 6 (cMod 6 l3) 2).W.length (mkA (cAnd 1 l0) 4 (cAnd 1 l1) 2 4 (cMod 6 l2) 6 (cMod 6 l3) 2).W := .inl ⟨rfl, rfl, hU⟩
  have o1 : lsOb (.ok (some m)) (mkA (cAnd 1 l0) 4 (cAnd 1 l1) 2 4 (cMod 6 l2) 6 (cMod 6 l3) 2).W.length (mkA (cAnd 1 l0) 4 (cAnd 1 l1) 2 4 (cMod 6 l2) 6 (cMod 6 l3) 2).W.length (mkA (cAnd 1 l0) 4 (cAnd 1 l1) 2 4 (cMod 6 l2) 6 (cMod 6 l3) 2).W := .inl ⟨rfl, rfl, hU⟩
  have hF : fOb (cAnd 1 l0) 4 (cAnd 1 l1) 2 4 (cMod 6 l2) 6 (cMod 6 l3) 2 (.ok (some z)) (mkA (cAnd 1 l0) 4 (cAnd 1 l1) 2 4 (cMod 6 l2) 6 (cMod 6 l3) 2).W.length (mkA (cAnd 1 l0) 4 (cAnd 1 l1) 2 4 (cMod 6 l2) 6 (cMod 6 l3) 2).W.length (mkA (cAnd 1 l0) 4 (cAnd 1 l1) 2 4 (cMod 6 l2) 6 (cMod 6 l3) 2).W := .inl ⟨hr, rfl, rfl, hU, hlen, by omega, by rw [e0, e1]; exact eF⟩
  have hMk := mk_free hr
  rw [if_pos hM] at hMk
  have hMo : fOb (cAnd 1 l0) 4 (cAnd 1 l1) 2 4 (cMod 6 l2) 6 (cMod 6 l3) 2 (.ok none) (mkA (cAnd 1 l0) 4 (cAnd 1 l1) 2 4 (cMod 6 l2) 6 (cMod 6 l3) 2).W.length (mkA (cAnd 1 l0) 4 (cAnd 1 l1) 2 4 (cMod 6 l2) 6 (cMod 6 l3) 2).W.length (mkA (cAnd 1 l0) 4 (cAnd 1 l1) 2 4 (cMod 6 l2) 6 (cMod 6 l3) 2).W := .inl ⟨hr, rfl, rfl, mkA_in hr, by rw [mkA_len]; omega, by omega, hMk⟩
  have hbl : IntKind.i64.wrap (cMod 6 l2 + cMod 6 l3) = cMod 6 l2 + cMod 6 l3 := wi64 (by omega) (by omega)
  have hbl0 : IntKind.i64.wrap (cMod 6 l2 + cMod 6 l3) = 0 := by rw [hbl, hM]
  have hX := hXHh (mkA (cAnd 1 l0) 4 (cAnd 1 l1) 2 4 (cMod 6 l2) 6 (cMod 6 l3) 2).W (.ok (some l)) (.ok (some m)) (.ok (some z)) (.ok none) 3
  refine gives_x hX (fn := Tryd.f6) rfl rfl rfl rfl fun ρ w => ?_
  have tail := ft_lmn (Wl := (mkA (cAnd 1 l0) 4 (cAnd 1 l1) 2 4 (cMod 6 l2) 6 (cMod 6 l3) 2).W) (l := l) (m := m) (z := z) (rM := .ok none) (h0 := 3) hz1 hz2 hz3 hz4 (ρ := ρ) (w := w)
  have t1 : SS (hXHh (mkA (cAnd 1 l0) 4 (cAnd 1 l1) 2 4 (cMod 6 l2) 6 (cMod 6 l3) 2).W (.ok (some l)) (.ok (some m)) (.ok (some z)) (.ok none) 3) (At ρ w) (Is .tt [pinE RTV]) ⟨[], [], Tryd.f6, Tryd.f6.ntmps, [pinE RTV], contF Tryd.f6 10 [], [(5, .tt), (8, .sbuf 1 1 0 l.length), (9, .niliface), (10, .sbuf 2 1 0 m.length), (11, .niliface), (12, .sbuf 3 1 0 z.length), (13, .niliface), (14, .nilslice)], fH_lmn l m z⟩ := by
    refine sxb hX [.l] [] 4000 rfl trivial ?_
    refine ss_sub hX (T' := [(5, .tt), (8, .sbuf 1 1 0 l.length), (9, .niliface), (10, .sbuf 2 1 0 m.length), (11, .niliface), (12, .sbuf 3 1 0 z.length), (13, .niliface), (14, .nilslice), (16, .int .i64 0)]) (H' := fH_lmn l m z) [0, 1, 2, 3] rfl rfl rfl rfl (by (repeat' (first | exact rfl | exact trivial | exact sim_refl _ | refine And.intro ?_ ?_))) (by (repeat' (first | exact rfl | exact trivial | exact sim_refl _ | refine And.intro ?_ ?_))) (by (repeat' (first | exact rfl | exact trivial | exact sim_refl _ | refine And.intro ?_ ?_))) (by (repeat' (first | exact rfl | exact trivial | exact sim_refl _ | refine And.intro ?_ ?_))) ?_
    refine ss_loop hX (fun _ : Unit => [(5, .tt), (8, .sbuf 1 1 0 l.length), (9, .niliface), (10, .sbuf 2 1 0 m.length), (11, .niliface), (12, .sbuf 3 1 0 z.length), (13, .niliface), (14, .nilslice), (16, .int .i64 0)]) (fun _ => fH_lmn l m z) (fun _ => True) (fun _ => 0) () trivial ?_
    intro _ _ I2 _
    refine sxb hX [.r 15] [] 4000 rfl (by (simp [conjP])) ?_
    refine sxb hX [.r 15] [.F] 4000 rfl (by (simp [conjP, addOP])) ?_
    (refine ss_sub hX (T' := fT_lmn l m z) (H' := fH_lmn l m z) [0, 1, 2, 3] rfl rfl rfl rfl (by (repeat' (first | exact rfl | exact trivial | exact sim_refl _ | refine And.intro ?_ ?_))) (by (repeat' (first | exact rfl | exact trivial | exact sim_refl _ | refine And.intro ?_ ?_))) (by (repeat' (first | exact rfl | exact trivial | exact sim_refl _ | refine And.intro ?_ ?_))) (by (repeat' (first | exact rfl | exact trivial | exact sim_refl _ | refine And.intro ?_ ?_))) ?_; exact tail)
  refine sxb hX [.r 10] [] 4000 rfl (by (simp [conjP, getH, HE.so, hr, sel0, sel1, e0, e1, o0, o1, hF, hMo])) ?_
  refine sxb hX [.r 10] [.F] 4000 rfl (by (simp [conjP])) ?_
  refine sxb hX [.r 10] [.F] 4000 rfl (by (simp [conjP, addOP, hbl0])) ?_
  (refine ss_sub hX (T' := [(5, .tt), (8, .sbuf 1 1 0 l.length), (9, .niliface), (10, .sbuf 2 1 0 m.length), (11, .niliface), (12, .sbuf 3 1 0 z.length), (13, .niliface), (14, .nilslice)]) (H' := fH_lmn l m z) [0, 4, 5, 6] rfl rfl rfl rfl (by (repeat' (first | exact rfl | exact trivial | exact sim_refl _ | refine And.intro ?_ ?_))) (by (repeat' (first | exact rfl | exact trivial | exact sim_refl _ | refine And.intro ?_ ?_))) (by (repeat' (first | exact rfl | exact trivial | exact sim_refl _ | refine And.intro ?_ ?_))) (by (repeat' (first | exact rfl | exact trivial | exact sim_refl _ | refine And.intro ?_ ?_))) ?_; exact t1)

set_option maxHeartbeats 16000000 in
theorem fe_lmn_g (l0 l1 l2 l3 : Int) {a : Option Addr} {l : List Int} {m : List Int} {z : List Int} {Wl : List Int} (hla : (mkA (cAnd 1 l0) 4 (cAnd 1 l1) 2 4 (cMod 6 l2) 6 (cMod 6 l3) 2).W = Wl) (hU : InU Wl) (hlen : (Wl.length : Int) = sizeV (cAnd 1 l0) 4 (cAnd 1 l1) 4 (cMod 6 l2) 6 (cMod 6 l3)) (e0 : hsR (cAnd 1 l0) 4 (cAnd 1 l1) 2 4 (cMod 6 l2) 6 (cMod 6 l3) 2 0 Wl.length Wl = .ok (some l)) (e1 : hsR (cAnd 1 l0) 4 (cAnd 1 l1) 2 4 (cMod 6 l2) 6 (cMod 6 l3) 2 1 Wl.length Wl = .ok (some m)) (eF : frR (.ok (some l)) (.ok (some m)) = .ok (some z)) (hz1 : z.length = l.length + m.length) (hz2 : z.Pairwise (· < ·)) (hz3 : ∀ x ∈ z, x ∈ l ∨ x ∈ m) (hz4 : z.length ≤ 24) (hM : ¬ cMod 6 l2 + cMod 6 l3 = 0) :
    Gives Tryd.prog 6 [L4 l0 l1 l2 l3, .raw (.slice a 0 0)] [pinE RTV] (Is .tt [pinE RTV]) := by
  subst hla
  have hr := cfg_rightH l0 l1 l2 l3
  have hsz2 := size_bd hr
  have hm2 := cMod6 l2
  have hm3 := cMod6 l3
  have o0 : lsOb (.ok (some l)) (mkA (cAnd 1 l0) 4 (cAnd 1 l1) 2 4 (cMod 6 l2) 6 (cMod 6 l3) 2).W.length (mkA (cAnd 1 l0) 4 (cAnd 1 l1) 2 4 (cMod 6 l2) 6 (cMod 6 l3) 2).W.length (mkA (cAnd 1 l0) 4 (cAnd 1 l1) 2 4 (cMod 6 l2) 6 (cMod 6 l3) 2).W := .inl ⟨rfl, rfl, hU⟩
  have o1 : lsOb (.ok (some m)) (mkA (cAnd 1 l0) 4 (cAnd 1 l1) 2 4 (cMod 6 l2) 6 (cMod 6 l3) 2).W.length (mkA (cAnd 1 l0) 4 (cAnd 1 l1) 2 4 (cMod 6 l2) 6 (cMod 6 l3) 2).W.length (mkA (cAnd 1 l0) 4 (cAnd 1 l1) 2 4 (cMod 6 l2) 6 (cMod 6 l3) 2).W := .inl ⟨rfl, rfl, hU⟩
  have hF : fOb (cAnd 1 l0) 4 (cAnd 1 l1) 2 4 (cMod 6 l2) 6 (cMod 6 l3) 2 (.ok (some z)) (mkA (cAnd 1 l0) 4 (cAnd 1 l1) 2 4 (cMod 6 l2) 6 (cMod 6 l3) 2).W.length (mkA (cAnd 1 l0) 4 (cAnd 1 l1) 2 4 (cMod 6 l2) 6 (cMod 6 l3) 2).W.length (mkA (cAnd 1 l0) 4 (cAnd 1 l1) 2 4 (cMod 6 l2) 6 (cMod 6 l3) 2).W := .inl ⟨hr, rfl, rfl, hU, hlen, by omega, by rw [e0, e1]; exact eF⟩
  have hMk := mk_free hr
  rw [if_neg hM] at hMk
  have hMo : fOb (cAnd 1 l0) 4 (cAnd 1 l1) 2 4 (cMod 6 l2) 6 (cMod 6 l3) 2 (.ok (some (rngL (cMod 6 l2 + cMod 6 l3).toNat))) (mkA (cAnd 1 l0) 4 (cAnd 1 l1) 2 4 (cMod 6 l2) 6 (cMod 6 l3) 2).W.length (mkA (cAnd 1 l0) 4 (cAnd 1 l1) 2 4 (cMod 6 l2) 6 (cMod 6 l3) 2).W.length (mkA (cAnd 1 l0) 4 (cAnd 1 l1) 2 4 (cMod 6 l2) 6 (cMod 6 l3) 2).W := .inl ⟨hr, rfl, rfl, mkA_in hr, by rw [mkA_len]; omega, by omega, hMk⟩
  have hbl : IntKind.i64.wrap (cMod 6 l2 + cMod 6 l3) = cMod 6 l2 + cMod 6 l3 := wi64 (by omega) (by omega)
  skip
  have hX := hXHh (mkA (cAnd 1 l0) 4 (cAnd 1 l1) 2 4 (cMod 6 l2) 6 (cMod 6 l3) 2).W (.ok (some l)) (.ok (some m)) (.ok (some z)) (.ok (some (rngL (cMod 6 l2 + cMod 6 l3).toNat))) 3
  refine gives_x hX (fn := Tryd.f6) rfl rfl rfl rfl fun ρ w => ?_
  have tail := ft_lmn (Wl := (mkA (cAnd 1 l0) 4 (cAnd 1 l1) 2 4 (cMod 6 l2) 6 (cMod 6 l3) 2).W) (l := l) (m := m) (z := z) (rM := .ok (some (rngL (cMod 6 l2 + cMod 6 l3).toNat))) (h0 := 3) hz1 hz2 hz3 hz4 (ρ := ρ) (w := w)
  have t1 : SS (hXHh (mkA (cAnd 1 l0) 4 (cAnd 1 l1) 2 4 (cMod 6 l2) 6 (cMod 6 l3) 2).W (.ok (some l)) (.ok (some m)) (.ok (some z)) (.ok (some (rngL (cMod 6 l2 + cMod 6 l3).toNat))) 3) (At ρ w) (Is .tt [pinE RTV]) ⟨[], [], Tryd.f6, Tryd.f6.ntmps, [pinE RTV], contF Tryd.f6 10 [], [(5, .tt), (8, .sbuf 1 1 0 l.length), (9, .niliface), (10, .sbuf 2 1 0 m.length), (11, .niliface), (12, .sbuf 3 1 0 z.length), (13, .niliface), (14, .sbuf 4 1 0 (rngL (cMod 6 l2 + cMod 6 l3).toNat).length)], (fH_lmn l m z ++ [IB (rngL (cMod 6 l2 + cMod 6 l3).toNat)])⟩ := by
    refine sxb hX [.l] [] 4000 rfl trivial ?_
    have hrl := rng_len (cMod 6 l2 + cMod 6 l3).toNat
    have htn : (((cMod 6 l2 + cMod 6 l3).toNat : Nat) : Int) = cMod 6 l2 + cMod 6 l3 := by omega
    have hrg := fun (i : Nat) (h : i < (cMod 6 l2 + cMod 6 l3).toNat) => rng_get h
    generalize rngL (cMod 6 l2 + cMod 6 l3).toNat = g at *
    refine ss_sub hX (T' := [(5, .tt), (8, .sbuf 1 1 0 l.length), (9, .niliface), (10, .sbuf 2 1 0 m.length), (11, .niliface), (12, .sbuf 3 1 0 z.length), (13, .niliface), (14, .sbuf 4 1 0 g.length), (16, .int .i64 ((0 : Nat) : Int))]) (H' := (fH_lmn l m z ++ [IB (g)])) [0, 1, 2, 3, 4] rfl rfl rfl rfl (by (repeat' (first | exact rfl | exact trivial | exact sim_refl _ | refine And.intro ?_ ?_))) (by (repeat' (first | exact rfl | exact trivial | exact sim_refl _ | refine And.intro ?_ ?_))) (by (repeat' (first | exact rfl | exact trivial | exact sim_refl _ | refine And.intro ?_ ?_))) (by (repeat' (first | exact rfl | exact trivial | exact sim_refl _ | refine And.intro ?_ ?_))) ?_
    refine ss_loop hX (fun i : Nat => [(5, .tt), (8, .sbuf 1 1 0 l.length), (9, .niliface), (10, .sbuf 2 1 0 m.length), (11, .niliface), (12, .sbuf 3 1 0 z.length), (13, .niliface), (14, .sbuf 4 1 0 g.length), (16, .int .i64 (i : Int))]) (fun _ => (fH_lmn l m z ++ [IB (g)])) (fun i => i ≤ g.length) (fun i => g.length - i) 0 (Nat.zero_le _) ?_
    intro i hi0 I2 back
    have hi : i ≤ g.length := hi0
    by_cases h1 : i < g.length
    · have h2 : (i : Int) < (g.length : Int) := by omega
      have h3 := hrg i (by omega)
      have h4 : IntKind.i64.wrap ((i : Int) + 1) = (i : Int) + 1 := wi64 (by omega) (by omega)
      refine sx hX [] 4000 rfl (by (simp [conjP])) ?_
      refine sx hX [.T] 4000 rfl (by (simp [conjP, h1, h2, cellOff])) ?_
      refine sx hX [.F] 4000 rfl (by (simp [-List.getD_eq_getElem?_getD, -List.length_eq_zero_iff, conjP, addOP, h3, h4, cellOff])) ?_
      (refine back (i + 1) ?q1 ?q2 _ _ _ (sub_of [0, 1, 2, 3, 4] rfl rfl rfl rfl ?tt (by (repeat' (first | exact rfl | exact trivial | exact sim_refl _ | refine And.intro ?_ ?_))) (by (repeat' (first | exact rfl | exact trivial | exact sim_refl _ | refine And.intro ?_ ?_))) (by (repeat' (first | exact rfl | exact trivial | exact sim_refl _ | refine And.intro ?_ ?_)))); (case tt => refine ⟨by (repeat' (first | exact rfl | exact trivial | exact sim_refl _ | refine And.intro ?_ ?_)), by (repeat' (first | exact rfl | exact trivial | exact sim_refl _ | refine And.intro ?_ ?_)), by (repeat' (first | exact rfl | exact trivial | exact sim_refl _ | refine And.intro ?_ ?_)), by (repeat' (first | exact rfl | exact trivial | exact sim_refl _ | refine And.intro ?_ ?_)), by (repeat' (first | exact rfl | exact trivial | exact sim_refl _ | refine And.intro ?_ ?_)), by (repeat' (first | exact rfl | exact trivial | exact sim_refl _ | refine And.intro ?_ ?_)), by (repeat' (first | exact rfl | exact trivial | exact sim_refl _ | refine And.intro ?_ ?_)), by (repeat' (first | exact rfl | exact trivial | exact sim_refl _ | refine And.intro ?_ ?_)), ⟨rfl, by rw [h4]; omega⟩, trivial⟩); (case q1 => exact h1); (case q2 => omega))
    · have h2 : ¬ (i : Int) < (g.length : Int) := by omega
      refine sxb hX [.r 15] [] 4000 rfl (by (simp [conjP])) ?_
      refine sxb hX [.r 15] [.F] 4000 rfl (by (simp [conjP, addOP, h2])) ?_
      (refine ss_sub hX (T' := fT_lmn l m z) (H' := fH_lmn l m z) [0, 1, 2, 3] rfl rfl rfl rfl (by (repeat' (first | exact rfl | exact trivial | exact sim_refl _ | refine And.intro ?_ ?_))) (by (repeat' (first | exact rfl | exact trivial | exact sim_refl _ | refine And.intro ?_ ?_))) (by (repeat' (first | exact rfl | exact trivial | exact sim_refl _ | refine And.intro ?_ ?_))) (by (repeat' (first | exact rfl | exact trivial | exact sim_refl _ | refine And.intro ?_ ?_))) ?_; exact tail)
  have hrl := rng_len (cMod 6 l2 + cMod 6 l3).toNat
  have htn : (((cMod 6 l2 + cMod 6 l3).toNat : Nat) : Int) = cMod 6 l2 + cMod 6 l3 := by omega
  refine sxb hX [.r 10] [] 4000 rfl (by (simp [conjP, getH, HE.so, hr, sel0, sel1, e0, e1, o0, o1, hF, hMo])) ?_
  refine sxb hX [.r 10] [.F] 4000 rfl (by (simp [conjP])) ?_
  refine sxb hX [.r 10] [.F] 4000 rfl (by (simp [conjP, addOP, hbl, hrl, htn])) ?_
  (refine ss_sub hX (T' := [(5, .tt), (8, .sbuf 1 1 0 l.length), (9, .niliface), (10, .sbuf 2 1 0 m.length), (11, .niliface), (12, .sbuf 3 1 0 z.length), (13, .niliface), (14, .sbuf 4 1 0 (rngL (cMod 6 l2 + cMod 6 l3).toNat).length)]) (H' := (fH_lmn l m z ++ [IB (rngL (cMod 6 l2 + cMod 6 l3).toNat)])) [0, 4, 5, 6, 9] rfl rfl rfl rfl (by (repeat' (first | exact rfl | exact trivial | exact sim_refl _ | refine And.intro ?_ ?_))) (by (repeat' (first | exact rfl | exact trivial | exact sim_refl _ | refine And.intro ?_ ?_))) (by (repeat' (first | exact rfl | exact trivial | exact sim_refl _ | refine And.intro ?_ ?_))) (by (repeat' (first | exact rfl | exact trivial | exact sim_refl _ | refine And.intro ?_ ?_))) ?_; exact t1)

set_option maxHeartbeats 16000000 in
theorem fe_nbn_n (l0 l1 l2 l3 : Int) {a : Option Addr} {e p : Int} {Wl : List Int} (hla : (mkA (cAnd 1 l0) 4 (cAnd 1 l1) 2 4 (cMod 6 l2) 6 (cMod 6 l3) 2).W = Wl) (hU : InU Wl) (hlen : (Wl.length : Int) = sizeV (cAnd 1 l0) 4 (cAnd 1 l1) 4 (cMod 6 l2) 6 (cMod 6 l3)) (e0 : hsR (cAnd 1 l0) 4 (cAnd 1 l1) 2 4 (cMod 6 l2) 6 (cMod 6 l3) 2 0 Wl.length Wl = .ok none) (e1 : hsR (cAnd 1 l0) 4 (cAnd 1 l1) 2 4 (cMod 6 l2) 6 (cMod 6 l3) 2 1 Wl.length Wl = .bad e p) (eF : frR (.ok none) (.bad e p) = .bad e p) (he : e = 10 ∨ e = 16) (hM : cMod 6 l2 + cMod 6 l3 = 0) :
    Gives Tryd.prog 6 [L4 l0 l1 l2 l3, .raw (.slice a 0 0)] [pinE RTV] (Is .tt [pinE RTV]) := by
  subst hla
  have hr := cfg_rightH l0 l1 l2 l3
  have hsz2 := size_bd hr
  have hm2 := cMod6 l2
  have hm3 := cMod6 l3
  have o0 : lsOb (.ok none) (mkA (cAnd 1 l0) 4 (cAnd 1 l1) 2 4 (cMod 6 l2) 6 (cMod 6 l3) 2).W.length (mkA (cAnd 1 l0) 4 (cAnd 1 l1) 2 4 (cMod 6 l2) 6 (cMod 6 l3) 2).W.length (mkA (cAnd 1 l0) 4 (cAnd 1 l1) 2 4 (cMod 6 l2) 6 (cMod 6 l3) 2).W := .inl ⟨rfl, rfl, hU⟩
  have o1 : lsOb (.bad e p) (mkA (cAnd 1 l0) 4 (cAnd 1 l1) 2 4 (cMod 6 l2) 6 (cMod 6 l3) 2).W.length (mkA (cAnd 1 l0) 4 (cAnd 1 l1) 2 4 (cMod 6 l2) 6 (cMod 6 l3) 2).W.length (mkA (cAnd 1 l0) 4 (cAnd 1 l1) 2 4 (cMod 6 l2) 6 (cMod 6 l3) 2).W := .inl ⟨rfl, rfl, hU⟩
  have hF : fOb (cAnd 1 l0) 4 (cAnd 1 l1) 2 4 (cMod 6 l2) 6 (cMod 6 l3) 2 (.bad e p) (mkA (cAnd 1 l0) 4 (cAnd 1 l1) 2 4 (cMod 6 l2) 6 (cMod 6 l3) 2).W.length (mkA (cAnd 1 l0) 4 (cAnd 1 l1) 2 4 (cMod 6 l2) 6 (cMod 6 l3) 2).W.length (mkA (cAnd 1 l0) 4 (cAnd 1 l1) 2 4 (cMod 6 l2) 6 (cMod 6 l3) 2).W := .inl ⟨hr, rfl, rfl, hU, hlen, by omega, by rw [e0, e1]; exact eF⟩
  have hMk := mk_free hr
  rw [if_pos hM] at hMk
  have hMo : fOb (cAnd 1 l0) 4 (cAnd 1 l1) 2 4 (cMod 6 l2) 6 (cMod 6 l3) 2 (.ok none) (mkA (cAnd 1 l0) 4 (cAnd 1 l1) 2 4 (cMod 6 l2) 6 (cMod 6 l3) 2).W.length (mkA (cAnd 1 l0) 4 (cAnd 1 l1) 2 4 (cMod 6 l2) 6 (cMod 6 l3) 2).W.length (mkA (cAnd 1 l0) 4 (cAnd 1 l1) 2 4 (cMod 6 l2) 6 (cMod 6 l3) 2).W := .inl ⟨hr, rfl, rfl, mkA_in hr, by rw [mkA_len]; omega, by omega, hMk⟩
  have hbl : IntKind.i64.wrap (cMod 6 l2 + cMod 6 l3) = cMod 6 l2 + cMod 6 l3 := wi64 (by omega) (by omega)
  have hbl0 : IntKind.i64.wrap (cMod 6 l2 + cMod 6 l3) = 0 := by rw [hbl, hM]
  have hX := hXHh (mkA (cAnd 1 l0) 4 (cAnd 1 l1) 2 4 (cMod 6 l2) 6 (cMod 6 l3) 2).W (.ok none) (.bad e p) (.bad e p) (.ok none) 3
  refine gives_x hX (fn := Tryd.f6) rfl rfl rfl rfl fun ρ w => ?_
  have tail := ft_nbn (Wl := (mkA (cAnd 1 l0) 4 (cAnd 1 l1) 2 4 (cMod 6 l2) 6 (cMod 6 l3) 2).W) (e := e) (p := p) (rM := .ok none) (h0 := 3) he (ρ := ρ) (w := w)
  have t1 : SS (hXHh (mkA (cAnd 1 l0) 4 (cAnd 1 l1) 2 4 (cMod 6 l2) 6 (cMod 6 l3) 2).W (.ok none) (.bad e p) (.bad e p) (.ok none) 3) (At ρ w) (Is .tt [pinE RTV]) ⟨[], [], Tryd.f6, Tryd.f6.ntmps, [pinE RTV], contF Tryd.f6 10 [], [(5, .tt), (8, .nilslice), (9, .niliface), (10, .nilslice), (11, .iface 93 (.ptr 1 0)), (12, .nilslice), (13, .iface 93 (.ptr 2 0)), (14, .nilslice)], fH_nbn e p⟩ := by
    refine sxb hX [.l] [] 4000 rfl trivial ?_
    refine ss_sub hX (T' := [(5, .tt), (8, .nilslice), (9, .niliface), (10, .nilslice), (11, .iface 93 (.ptr 1 0)), (12, .nilslice), (13, .iface 93 (.ptr 2 0)), (14, .nilslice), (16, .int .i64 0)]) (H' := fH_nbn e p) [0, 1, 2] rfl rfl rfl rfl (by (repeat' (first | exact rfl | exact trivial | exact sim_refl _ | refine And.intro ?_ ?_))) (by (repeat' (first | exact rfl | exact trivial | exact sim_refl _ | refine And.intro ?_ ?_))) (by (repeat' (first | exact rfl | exact trivial | exact sim_refl _ | refine And.intro ?_ ?_))) (by (repeat' (first | exact rfl | exact trivial | exact sim_refl _ | refine And.intro ?_ ?_))) ?_
    refine ss_loop hX (fun _ : Unit => [(5, .tt), (8, .nilslice), (9, .niliface), (10, .nilslice), (11, .iface 93 (.ptr 1 0)), (12, .nilslice), (13, .iface 93 (.ptr 2 0)), (14, .nilslice), (16, .int .i64 0)]) (fun _ => fH_nbn e p) (fun _ => True) (fun _ => 0) () trivial ?_
    intro _ _ I2 _
    refine sxb hX [.r 15] [] 4000 rfl (by (simp [conjP])) ?_
    refine sxb hX [.r 15] [.F] 4000 rfl (by (simp [conjP, addOP])) ?_
    (refine ss_sub hX (T' := fT_nbn e p) (H' := fH_nbn e p) [0, 1, 2] rfl rfl rfl rfl (by (repeat' (first | exact rfl | exact trivial | exact sim_refl _ | refine And.intro ?_ ?_))) (by (repeat' (first | exact rfl | exact trivial | exact sim_refl _ | refine And.intro ?_ ?_))) (by (repeat' (first | exact rfl | exact trivial | exact sim_refl _ | refine And.intro ?_ ?_))) (by (repeat' (first | exact rfl | exact trivial | exact sim_refl _ | refine And.intro ?_ ?_))) ?_; exact tail)
  refine sxb hX [.r 10] [] 4000 rfl (by (simp [conjP, getH, HE.so, hr, sel0, sel1, e0, e1, o0, o1, hF, hMo])) ?_
  refine sxb hX [.r 10] [.F] 4000 rfl (by (simp [conjP])) ?_
  refine sxb hX [.r 10] [.F] 4000 rfl (by (simp [conjP, addOP, hbl0])) ?_
  (refine ss_sub hX (T' := [(5, .tt), (8, .nilslice), (9, .niliface), (10, .nilslice), (11, .iface 93 (.ptr 1 0)), (12, .nilslice), (13, .iface 93 (.ptr 2 0)), (14, .nilslice)]) (H' := fH_nbn e p) [0, 4, 5] rfl rfl rfl rfl (by (repeat' (first | exact rfl | exact trivial | exact sim_refl _ | refine And.intro ?_ ?_))) (by (repeat' (first | exact rfl | exact trivial | exact sim_refl _ | refine And.intro ?_ ?_))) (by (repeat' (first | exact rfl | exact trivial | exact sim_refl _ | refine And.intro ?_ ?_))) (by (repeat' (first | exact rfl | exact trivial | exact sim_refl _ | refine And.intro ?_ ?_))) ?_; exact t1)

set_option maxHeartbeats 16000000 in
theorem fe_nbn_g (l0 l1 l2 l3 : Int) {a : Option Addr} {e p : Int} {Wl : List Int} (hla : (mkA (cAnd 1 l0) 4 (cAnd 1 l1) 2 4 (cMod 6 l2) 6 (cMod 6 l3) 2).W = Wl) (hU : InU Wl) (hlen : (Wl.length : Int) = sizeV (cAnd 1 l0) 4 (cAnd 1 l1) 4 (cMod 6 l2) 6 (cMod 6 l3)) (e0 : hsR (cAnd 1 l0) 4 (cAnd 1 l1) 2 4 (cMod 6 l2) 6 (cMod 6 l3) 2 0 Wl.length Wl = .ok none) (e1 : hsR (cAnd 1 l0) 4 (cAnd 1 l1) 2 4 (cMod 6 l2) 6 (cMod 6 l3) 2 1 Wl.length Wl = .bad e p) (eF : frR (.ok none) (.bad e p) = .bad e p) (he : e = 10 ∨ e = 16) (hM : ¬ cMod 6 l2 + cMod 6 l3 = 0) :
    Gives Tryd.prog 6 [L4 l0 l1 l2 l3, .raw (.slice a 0 0)] [pinE RTV] (Is .tt [pinE RTV]) := by
  subst hla
  have hr := cfg_rightH l0 l1 l2 l3
  have hsz2 := size_bd hr
  have hm2 := cMod6 l2
  have hm3 := cMod6 l3
  have o0 : lsOb (.ok none) (mkA (cAnd 1 l0) 4 (cAnd 1 l1) 2 4 (cMod 6 l2) 6 (cMod 6 l3) 2).W.length (mkA (cAnd 1 l0) 4 (cAnd 1 l1) 2 4 (cMod 6 l2) 6 (cMod 6 l3) 2).W.length (mkA (cAnd 1 l0) 4 (cAnd 1 l1) 2 4 (cMod 6 l2) 6 (cMod 6 l3) 2).W := .inl ⟨rfl, rfl, hU⟩
  have o1 : lsOb (.bad e p) (mkA (cAnd 1 l0) 4 (cAnd 1 l1) 2 4 (cMod 6 l2) 6 (cMod 6 l3) 2).W.length (mkA (cAnd 1 l0) 4 (cAnd 1 l1) 2 4 (cMod 6 l2) 6 (cMod 6 l3) 2).W.length (mkA (cAnd 1 l0) 4 (cAnd 1 l1) 2 4 (cMod 6 l2) 6 (cMod 6 l3) 2).W := .inl ⟨rfl, rfl, hU⟩
  have hF : fOb (cAnd 1 l0) 4 (cAnd 1 l1) 2 4 (cMod 6 l2) 6 (cMod 6 l3) 2 (.bad e p) (mkA (cAnd 1 l0) 4 (cAnd 1 l1) 2 4 (cMod 6 l2) 6 (cMod 6 l3) 2).W.length (mkA (cAnd 1 l0) 4 (cAnd 1 l1) 2 4 (cMod 6 l2) 6 (cMod 6 l3) 2).W.length (mkA (cAnd 1 l0) 4 (cAnd 1 l1) 2 4 (cMod 6 l2) 6 (cMod 6 l3) 2).W := .inl ⟨hr, rfl, rfl, hU, hlen, by omega, by rw [e0, e1]; exact eF⟩
  have hMk := mk_free hr
  rw [if_neg hM] at hMk
  have hMo : fOb (cAnd 1 l0) 4 (cAnd 1 l1) 2 4 (cMod 6 l2) 6 (cMod 6 l3) 2 (.ok (some (rngL (cMod 6 l2 + cMod 6 l3).toNat))) (mkA (cAnd 1 l0) 4 (cAnd 1 l1) 2 4 (cMod 6 l2) 6 (cMod 6 l3) 2).W.length (mkA (cAnd 1 l0) 4 (cAnd 1 l1) 2 4 (cMod 6 l2) 6 (cMod 6 l3) 2).W.length (mkA (cAnd 1 l0) 4 (cAnd 1 l1) 2 4 (cMod 6 l2) 6 (cMod 6 l3) 2).W := .inl ⟨hr, rfl, rfl, mkA_in hr, by rw [mkA_len]; omega, by omega, hMk⟩
  have hbl : IntKind.i64.wrap (cMod 6 l2 + cMod 6 l3) = cMod 6 l2 + cMod 6 l3 := wi64 (by omega) (by omega)
  skip
  have hX := hXHh (mkA (cAnd 1 l0) 4 (cAnd 1 l1) 2 4 (cMod 6 l2) 6 (cMod 6 l3) 2).W (.ok none) (.bad e p) (.bad e p) (.ok (some (rngL (cMod 6 l2 + cMod 6 l3).toNat))) 3
  refine gives_x hX (fn := Tryd.f6) rfl rfl rfl rfl fun ρ w => ?_
  have tail := ft_nbn (Wl := (mkA (cAnd 1 l0) 4 (cAnd 1 l1) 2 4 (cMod 6 l2) 6 (cMod 6 l3) 2).W) (e := e) (p := p) (rM := .ok (some (rngL (cMod 6 l2 + cMod 6 l3).toNat))) (h0 := 3) he (ρ := ρ) (w := w)
  have t1 : SS (hXHh (mkA (cAnd 1 l0) 4 (cAnd 1 l1) 2 4 (cMod 6 l2) 6 (cMod 6 l3) 2).W (.ok none) (.bad e p) (.bad e p) (.ok (some (rngL (cMod 6 l2 + cMod 6 l3).toNat))) 3) (At ρ w) (Is .tt [pinE RTV]) ⟨[], [], Tryd.f6, Tryd.f6.ntmps, [pinE RTV], contF Tryd.f6 10 [], [(5, .tt), (8, .nilslice), (9, .niliface), (10, .nilslice), (11, .iface 93 (.ptr 1 0)), (12, .nilslice), (13, .iface 93 (.ptr 2 0)), (14, .sbuf 3 1 0 (rngL (cMod 6 l2 + cMod 6 l3).toNat).length)], (fH_nbn e p ++ [IB (rngL (cMod 6 l2 + cMod 6 l3).toNat)])⟩ := by
    refine sxb hX [.l] [] 4000 rfl trivial ?_
    have hrl := rng_len (cMod 6 l2 + cMod 6 l3).toNat
    have htn : (((cMod 6 l2 + cMod 6 l3).toNat : Nat) : Int) = cMod 6 l2 + cMod 6 l3 := by omega
    have hrg := fun (i : Nat) (h : i < (cMod 6 l2 + cMod 6 l3).toNat) => rng_get h
    generalize rngL (cMod 6 l2 + cMod 6 l3).toNat = g at *
    refine ss_sub hX (T' := [(5, .tt), (8, .nilslice), (9, .niliface), (10, .nilslice), (11, .iface 93 (.ptr 1 0)), (12, .nilslice), (13, .iface 93 (.ptr 2 0)), (14, .sbuf 3 1 0 g.length), (16, .int .i64 ((0 : Nat) : Int))]) (H' := (fH_nbn e p ++ [IB (g)])) [0, 1, 2, 3] rfl rfl rfl rfl (by (repeat' (first | exact rfl | exact trivial | exact sim_refl _ | refine And.intro ?_ ?_))) (by (repeat' (first | exact rfl | exact trivial | exact sim_refl _ | refine And.intro ?_ ?_))) (by (repeat' (first | exact rfl | exact trivial | exact sim_refl _ | refine And.intro ?_ ?_))) (by (repeat' (first | exact rfl | exact trivial | exact sim_refl _ | refine And.intro ?_ ?_))) ?_
    refine ss_loop hX (fun i : Nat => [(5, .tt), (8, .nilslice), (9, .niliface), (10, .nilslice), (11, .iface 93 (.ptr 1 0)), (12, .nilslice), (13, .iface 93 (.ptr 2 0)), (14, .sbuf 3 1 0 g.length), (16, .int .i64 (i : Int))]) (fun _ => (fH_nbn e p ++ [IB (g)])) (fun i => i ≤ g.length) (fun i => g.length - i) 0 (Nat.zero_le _) ?_
    intro i hi0 I2 back
    have hi : i ≤ g.length := hi0
    by_cases h1 : i < g.length
    · have h2 : (i : Int) < (g.length : Int) := by omega
      have h3 := hrg i (by omega)
      have h4 : IntKind.i64.wrap ((i : Int) + 1) = (i : Int) + 1 := wi64 (by omega) (by omega)
      refine sx hX [] 4000 rfl (by (simp [conjP])) ?_
      refine sx hX [.T] 4000 rfl (by (simp [conjP, h1, h2, cellOff])) ?_
      refine sx hX [.F] 4000 rfl (by (simp [-List.getD_eq_getElem?_getD, -List.length_eq_zero_iff, conjP, addOP, h3, h4, cellOff])) ?_
      (refine back (i + 1) ?q1 ?q2 _ _ _ (sub_of [0, 1, 2, 3] rfl rfl rfl rfl ?tt (by (repeat' (first | exact rfl | exact trivial | exact sim_refl _ | refine And.intro ?_ ?_))) (by (repeat' (first | exact rfl | exact trivial | exact sim_refl _ | refine And.intro ?_ ?_))) (by (repeat' (first | exact rfl | exact trivial | exact sim_refl _ | refine And.intro ?_ ?_)))); (case tt => refine ⟨by (repeat' (first | exact rfl | exact trivial | exact sim_refl _ | refine And.intro ?_ ?_)), by (repeat' (first | exact rfl | exact trivial | exact sim_refl _ | refine And.intro ?_ ?_)), by (repeat' (first | exact rfl | exact trivial | exact sim_refl _ | refine And.intro ?_ ?_)), by (repeat' (first | exact rfl | exact trivial | exact sim_refl _ | refine And.intro ?_ ?_)), by (repeat' (first | exact rfl | exact trivial | exact sim_refl _ | refine And.intro ?_ ?_)), by (repeat' (first | exact rfl | exact trivial | exact sim_refl _ | refine And.intro ?_ ?_)), by (repeat' (first | exact rfl | exact trivial | exact sim_refl _ | refine And.intro ?_ ?_)), by (repeat' (first | exact rfl | exact trivial | exact sim_refl _ | refine And.intro ?_ ?_)), ⟨rfl, by rw [h4]; omega⟩, trivial⟩); (case q1 => exact h1); (case q2 => omega))
    · have h2 : ¬ (i : Int) < (g.length : Int) := by omega
      refine sxb hX [.r 15] [] 4000 rfl (by (simp [conjP])) ?_
      refine sxb hX [.r 15] [.F] 4000 rfl (by (simp [conjP, addOP, h2])) ?_
      (refine ss_sub hX (T' := fT_nbn e p) (H' := fH_nbn e p) [0, 1, 2] rfl rfl rfl rfl (by (repeat' (first | exact rfl | exact trivial | exact sim_refl _ | refine And.intro ?_ ?_))) (by (repeat' (first | exact rfl | exact trivial | exact sim_refl _ | refine And.intro ?_ ?_))) (by (repeat' (first | exact rfl | exact trivial | exact sim_refl _ | refine And.intro ?_ ?_))) (by (repeat' (first | exact rfl | exact trivial | exact sim_refl _ | refine And.intro ?_ ?_))) ?_; exact tail)
  have hrl := rng_len (cMod 6 l2 + cMod 6 l3).toNat
  have htn : (((cMod 6 l2 + cMod 6 l3).toNat : Nat) : Int) = cMod 6 l2 + cMod 6 l3 := by omega
  refine sxb hX [.r 10] [] 4000 rfl (by (simp [conjP, getH, HE.so, hr, sel0, sel1, e0, e1, o0, o1, hF, hMo])) ?_
  refine sxb hX [.r 10] [.F] 4000 rfl (by (simp [conjP])) ?_
  refine sxb hX [.r 10] [.F] 4000 rfl (by (simp [conjP, addOP, hbl, hrl, htn])) ?_
  (refine ss_sub hX (T' := [(5, .tt), (8, .nilslice), (9, .niliface), (10, .nilslice), (11, .iface 93 (.ptr 1 0)), (12, .nilslice), (13, .iface 93 (.ptr 2 0)), (14, .sbuf 3 1 0 (rngL (cMod 6 l2 + cMod 6 l3).toNat).length)]) (H' := (fH_nbn e p ++ [IB (rngL (cMod 6 l2 + cMod 6 l3).toNat)])) [0, 4, 5, 8] rfl rfl rfl rfl (by (repeat' (first | exact rfl | exact trivial | exact sim_refl _ | refine And.intro ?_ ?_))) (by (repeat' (first | exact rfl | exact trivial | exact sim_refl _ | refine And.intro ?_ ?_))) (by (repeat' (first | exact rfl | exact trivial | exact sim_refl _ | refine And.intro ?_ ?_))) (by (repeat' (first | exact rfl | exact trivial | exact sim_refl _ | refine And.intro ?_ ?_))) ?_; exact t1)

set_option maxHeartbeats 16000000 in
theorem fe_lbn_n (l0 l1 l2 l3 : Int) {a : Option Addr} {l : List Int} {e p : Int} {Wl : List Int} (hla : (mkA (cAnd 1 l0) 4 (cAnd 1 l1) 2 4 (cMod 6 l2) 6 (cMod 6 l3) 2).W = Wl) (hU : InU Wl) (hlen : (Wl.length : Int) = sizeV (cAnd 1 l0) 4 (cAnd 1 l1) 4 (cMod 6 l2) 6 (cMod 6 l3)) (e0 : hsR (cAnd 1 l0) 4 (cAnd 1 l1) 2 4 (cMod 6 l2) 6 (cMod 6 l3) 2 0 Wl.length Wl = .ok (some l)) (e1 : hsR (cAnd 1 l0) 4 (cAnd 1 l1) 2 4 (cMod 6 l2) 6 (cMod 6 l3) 2 1 Wl.length Wl = .bad e p) (eF : frR (.ok (some l)) (.bad e p) = .bad e p) (he : e = 10 ∨ e = 16) (hM : cMod 6 l2 + cMod 6 l3 = 0) :
    Gives Tryd.prog 6 [L4 l0 l1 l2 l3, .raw (.slice a 0 0)] [pinE RTV] (Is .tt [pinE RTV]) := by
  subst hla
  have hr := cfg_rightH l0 l1 l2 l3
  have hsz2 := size_bd hr
  have hm2 := cMod6 l2
  have hm3 := cMod6 l3
  have o0 : lsOb (.ok (some l)) (mkA (cAnd 1 l0) 4 (cAnd 1 l1) 2 4 (cMod 6 l2) 6 (cMod 6 l3) 2).W.length (mkA (cAnd 1 l0) 4 (cAnd 1 l1) 2 4 (cMod 6 l2) 6 (cMod 6 l3) 2).W.length (mkA (cAnd 1 l0) 4 (cAnd 1 l1) 2 4 (cMod 6 l2) 6 (cMod 6 l3) 2).W := .inl ⟨rfl, rfl, hU⟩
  have o1 : lsOb (.bad e p) (mkA (cAnd 1 l0) 4 (cAnd 1 l1) 2 4 (cMod 6 l2) 6 (cMod 6 l3) 2).W.length (mkA (cAnd 1 l0) 4 (cAnd 1 l1) 2 4 (cMod 6 l2) 6 (cMod 6 l3) 2).W.length (mkA (cAnd 1 l0) 4 (cAnd 1 l1) 2 4 (cMod 6 l2) 6 (cMod 6 l3) 2).W := .inl ⟨rfl, rfl, hU⟩
  have hF : fOb (cAnd 1 l0) 4 (cAnd 1 l1) 2 4 (cMod 6 l2) 6 (cMod 6 l3) 2 (.bad e p) (mkA (cAnd 1 l0) 4 (cAnd 1 l1) 2 4 (cMod 6 l2) 6 (cMod 6 l3) 2).W.length (mkA (cAnd 1 l0) 4 (cAnd 1 l1) 2 4 (cMod 6 l2) 6 (cMod 6 l3) 2).W.length (mkA (cAnd 1 l0) 4 (cAnd 1 l1) 2 4 (cMod 6 l2) 6 (cMod 6 l3) 2).W := .inl ⟨hr, rfl, rfl, hU, hlen, by omega, by rw [e0, e1]; exact eF⟩
  have hMk := mk_free hr
  rw [if_pos hM] at hMk
  have hMo : fOb (cAnd 1 l0) 4 (cAnd 1 l1) 2 4 (cMod 6 l2) 6 (cMod 6 l3) 2 (.ok none) (mkA (cAnd 1 l0) 4 (cAnd 1 l1) 2 4 (cMod 6 l2) 6 (cMod 6 l3) 2).W.length (mkA (cAnd 1 l0) 4 (cAnd 1 l1) 2 4 (cMod 6 l2) 6 (cMod 6 l3) 2).W.length (mkA (cAnd 1 l0) 4 (cAnd 1 l1) 2 4 (cMod 6 l2) 6 (cMod 6 l3) 2).W := .inl ⟨hr, rfl, rfl, mkA_in hr, by rw [mkA_len]; omega, by omega, hMk⟩
  have hbl : IntKind.i64.wrap (cMod 6 l2 + cMod 6 l3) = cMod 6 l2 + cMod 6 l3 := wi64 (by omega) (by omega)
  have hbl0 : IntKind.i64.wrap (cMod 6 l2 + cMod 6 l3) = 0 := by rw [hbl, hM]
  have hX := hXHh (mkA (cAnd 1 l0) 4 (cAnd 1 l1) 2 4 (cMod 6 l2) 6 (cMod 6 l3) 2).W (.ok (some l)) (.bad e p) (.bad e p) (.ok none) 3
  refine gives_x hX (fn := Tryd.f6) rfl rfl rfl rfl fun ρ w => ?_
  have tail := ft_lbn (Wl := (mkA (cAnd 1 l0) 4 (cAnd 1 l1) 2 4 (cMod 6 l2) 6 (cMod 6 l3) 2).W) (l := l) (e := e) (p := p) (rM := .ok none) (h0 := 3) he (ρ := ρ) (w := w)
  have t1 : SS (hXHh (mkA (cAnd 1 l0) 4 (cAnd 1 l1) 2 4 (cMod 6 l2) 6 (cMod 6 l3) 2).W (.ok (some l)) (.bad e p) (.bad e p) (.ok none) 3) (At ρ w) (Is .tt [pinE RTV]) ⟨[], [], Tryd.f6, Tryd.f6.ntmps, [pinE RTV], contF Tryd.f6 10 [], [(5, .tt), (8, .sbuf 1 1 0 l.length), (9, .niliface), (10, .nilslice), (11, .iface 93 (.ptr 2 0)), (12, .nilslice), (13, .iface 93 (.ptr 3 0)), (14, .nilslice)], fH_lbn l e p⟩ := by
    refine sxb hX [.l] [] 4000 rfl trivial ?_
    refine ss_sub hX (T' := [(5, .tt), (8, .sbuf 1 1 0 l.length), (9, .niliface), (10, .nilslice), (11, .iface 93 (.ptr 2 0)), (12, .nilslice), (13, .iface 93 (.ptr 3 0)), (14, .nilslice), (16, .int .i64 0)]) (H' := fH_lbn l e p) [0, 1, 2, 3] rfl rfl rfl rfl (by (repeat' (first | exact rfl | exact trivial | exact sim_refl _ | refine And.intro ?_ ?_))) (by (repeat' (first | exact rfl | exact trivial | exact sim_refl _ | refine And.intro ?_ ?_))) (by (repeat' (first | exact rfl | exact trivial | exact sim_refl _ | refine And.intro ?_ ?_))) (by (repeat' (first | exact rfl | exact trivial | exact sim_refl _ | refine And.intro ?_ ?_))) ?_
    refine ss_loop hX (fun _ : Unit => [(5, .tt), (8, .sbuf 1 1 0 l.length), (9, .niliface), (10, .nilslice), (11, .iface 93 (.ptr 2 0)), (12, .nilslice), (13, .iface 93 (.ptr 3 0)), (14, .nilslice), (16, .int .i64 0)]) (fun _ => fH_lbn l e p) (fun _ => True) (fun _ => 0) () trivial ?_
    intro _ _ I2 _
    refine sxb hX [.r 15] [] 4000 rfl (by (simp [conjP])) ?_
    refine sxb hX [.r 15] [.F] 4000 rfl (by (simp [conjP, addOP])) ?_
    (refine ss_sub hX (T' := fT_lbn l e p) (H' := fH_lbn l e p) [0, 1, 2, 3] rfl rfl rfl rfl (by (repeat' (first | exact rfl | exact trivial | exact sim_refl _ | refine And.intro ?_ ?_))) (by (repeat' (first | exact rfl | exact trivial | exact sim_refl _ | refine And.intro ?_ ?_))) (by (repeat' (first | exact rfl | exact trivial | exact sim_refl _ | refine And.intro ?_ ?_))) (by (repeat' (first | exact rfl | exact trivial | exact sim_refl _ | refine And.intro ?_ ?_))) ?_; exact tail)
  refine sxb hX [.r 10] [] 4000 rfl (by (simp [conjP, getH, HE.so, hr, sel0, sel1, e0, e1, o0, o1, hF, hMo])) ?_
  refine sxb hX [.r 10] [.F] 4000 rfl (by (simp [conjP])) ?_
  refine sxb hX [.r 10] [.F] 4000 rfl (by (simp [conjP, addOP, hbl0])) ?_
  (refine ss_sub hX (T' := [(5, .tt), (8, .sbuf 1 1 0 l.length), (9, .niliface), (10, .nilslice), (11, .iface 93 (.ptr 2 0)), (12, .nilslice), (13, .iface 93 (.ptr 3 0)), (14, .nilslice)]) (H' := fH_lbn l e p) [0, 4, 5, 6] rfl rfl rfl rfl (by (repeat' (first | exact rfl | exact trivial | exact sim_refl _ | refine And.intro ?_ ?_))) (by (repeat' (first | exact rfl | exact trivial | exact sim_refl _ | refine And.intro ?_ ?_))) (by (repeat' (first | exact rfl | exact trivial | exact sim_refl _ | refine And.intro ?_ ?_))) (by (repeat' (first | exact rfl | exact trivial | exact sim_refl _ | refine And.intro ?_ ?_))) ?_; exact t1)

set_option maxHeartbeats 16000000 in
theorem fe_lbn_g (l0 l1 l2 l3 : Int) {a : Option Addr} {l : List Int} {e p : Int} {Wl : List Int} (hla : (mkA (cAnd 1 l0) 4 (cAnd 1 l1) 2 4 (cMod 6 l2) 6 (cMod 6 l3) 2).W = Wl) (hU : InU Wl) (hlen : (Wl.length : Int) = sizeV (cAnd 1 l0) 4 (cAnd 1 l1) 4 (cMod 6 l2) 6 (cMod 6 l3)) (e0 : hsR (cAnd 1 l0) 4 (cAnd 1 l1) 2 4 (cMod 6 l2) 6 (cMod 6 l3) 2 0 Wl.length Wl = .ok (some l)) (e1 : hsR (cAnd 1 l0) 4 (cAnd 1 l1) 2 4 (cMod 6 l2) 6 (cMod 6 l3) 2 1 Wl.length Wl = .bad e p) (eF : frR (.ok (some l)) (.bad e p) = .bad e p) (he : e = 10 ∨ e = 16) (hM : ¬ cMod 6 l2 + cMod 6 l3 = 0) :
    Gives Tryd.prog 6 [L4 l0 l1 l2 l3, .raw (.slice a 0 0)] [pinE RTV] (Is .tt [pinE RTV]) := by
  subst hla
  have hr := cfg_rightH l0 l1 l2 l3
  have hsz2 := size_bd hr
  have hm2 := cMod6 l2
  have hm3 := cMod6 l3
  have o0 : lsOb (.ok (some l)) (mkA (cAnd 1 l0) 4 (cAnd 1 l1) 2 4 (cMod 6 l2) 6 (cMod 6 l3) 2).W.length (mkA (cAnd 1 l0) 4 (cAnd 1 l1) 2 4 (cMod 6 l2) 6 (cMod 6 l3) 2).W.length (mkA (cAnd 1 l0) 4 (cAnd 1 l1) 2 4 (cMod 6 l2) 6 (cMod 6 l3) 2).W := .inl ⟨rfl, rfl, hU⟩
  have o1 : lsOb (.bad e p) (mkA (cAnd 1 l0) 4 (cAnd 1 l1) 2 4 (cMod 6 l2) 6 (cMod 6 l3) 2).W.length (mkA (cAnd 1 l0) 4 (cAnd 1 l1) 2 4 (cMod 6 l2) 6 (cMod 6 l3) 2).W.length (mkA (cAnd 1 l0) 4 (cAnd 1 l1) 2 4 (cMod 6 l2) 6 (cMod 6 l3) 2).W := .inl ⟨rfl, rfl, hU⟩
  have hF : fOb (cAnd 1 l0) 4 (cAnd 1 l1) 2 4 (cMod 6 l2) 6 (cMod 6 l3) 2 (.bad e p) (mkA (cAnd 1 l0) 4 (cAnd 1 l1) 2 4 (cMod 6 l2) 6 (cMod 6 l3) 2).W.length (mkA (cAnd 1 l0) 4 (cAnd 1 l1) 2 4 (cMod 6 l2) 6 (cMod 6 l3) 2).W.length (mkA (cAnd 1 l0) 4 (cAnd 1 l1) 2 4 (cMod 6 l2) 6 (cMod 6 l3) 2).W := .inl ⟨hr, rfl, rfl, hU, hlen, by omega, by rw [e0, e1]; exact eF⟩
  have hMk := mk_free hr
  rw [if_neg hM] at hMk
  have hMo : fOb (cAnd 1 l0) 4 (cAnd 1 l1) 2 4 (cMod 6 l2) 6 (cMod 6 l3) 2 (.ok (some (rngL (cMod 6 l2 + cMod 6 l3).toNat))) (mkA (cAnd 1 l0) 4 (cAnd 1 l1) 2 4 (cMod 6 l2) 6 (cMod 6 l3) 2).W.length (mkA (cAnd 1 l0) 4 (cAnd 1 l1) 2 4 (cMod 6 l2) 6 (cMod 6 l3) 2).W.length (mkA (cAnd 1 l0) 4 (cAnd 1 l1) 2 4 (cMod 6 l2) 6 (cMod 6 l3) 2).W := .inl ⟨hr, rfl, rfl, mkA_in hr, by rw [mkA_len]; omega, by omega, hMk⟩
  have hbl : IntKind.i64.wrap (cMod 6 l2 + cMod 6 l3) = cMod 6 l2 + cMod 6 l3 := wi64 (by omega) (by omega)
  skip
  have hX := hXHh (mkA (cAnd 1 l0) 4 (cAnd 1 l1) 2 4 (cMod 6 l2) 6 (cMod 6 l3) 2).W (.ok (some l)) (.bad e p) (.bad e p) (.ok (some (rngL (cMod 6 l2 + cMod 6 l3).toNat))) 3
  refine gives_x hX (fn := Tryd.f6) rfl rfl rfl rfl fun ρ w => ?_
  have tail := ft_lbn (Wl := (mkA (cAnd 1 l0) 4 (cAnd 1 l1) 2 4 (cMod 6 l2) 6 (cMod 6 l3) 2).W) (l := l) (e := e) (p := p) (rM := .ok (some (rngL (cMod 6 l2 + cMod 6 l3).toNat))) (h0 := 3) he (ρ := ρ) (w := w)
  have t1 : SS (hXHh (mkA (cAnd 1 l0) 4 (cAnd 1 l1) 2 4 (cMod 6 l2) 6 (cMod 6 l3) 2).W (.ok (some l)) (.bad e p) (.bad e p) (.ok (some (rngL (cMod 6 l2 + cMod 6 l3).toNat))) 3) (At ρ w) (Is .tt [pinE RTV]) ⟨[], [], Tryd.f6, Tryd.f6.ntmps, [pinE RTV], contF Tryd.f6 10 [], [(5, .tt), (8, .sbuf 1 1 0 l.length), (9, .niliface), (10, .nilslice), (11, .iface 93 (.ptr 2 0)), (12, .nilslice), (13, .iface 93 (.ptr 3 0)), (14, .sbuf 4 1 0 (rngL (cMod 6 l2 + cMod 6 l3).toNat).length)], (fH_lbn l e p ++ [IB (rngL (cMod 6 l2 + cMod 6 l3).toNat)])⟩ := by
    refine sxb hX [.l] [] 4000 rfl trivial ?_
    have hrl := rng_len (cMod 6 l2 + cMod 6 l3).toNat
    have htn : (((cMod 6 l2 + cMod 6 l3).toNat : Nat) : Int) = cMod 6 l2 + cMod 6 l3 := by omega
    have hrg := fun (i : Nat) (h : i < (cMod 6 l2 + cMod 6 l3).toNat) => rng_get h
    generalize rngL (cMod 6 l2 + cMod 6 l3).toNat = g at *
    refine ss_sub hX (T' := [(5, .tt), (8, .sbuf 1 1 0 l.length), (9, .niliface), (10, .nilslice), (11, .iface 93 (.ptr 2 0)), (12, .nilslice), (13, .iface 93 (.ptr 3 0)), (14, .sbuf 4 1 0 g.length), (16, .int .i64 ((0 : Nat) : Int))]) (H' := (fH_lbn l e p ++ [IB (g)])) [0, 1, 2, 3, 4] rfl rfl rfl rfl (by (repeat' (first | exact rfl | exact trivial | exact sim_refl _ | refine And.intro ?_ ?_))) (by (repeat' (first | exact rfl | exact trivial | exact sim_refl _ | refine And.intro ?_ ?_))) (by (repeat' (first | exact rfl | exact trivial | exact sim_refl _ | refine And.intro ?_ ?_))) (by (repeat' (first | exact rfl | exact trivial | exact sim_refl _ | refine And.intro ?_ ?_))) ?_
    refine ss_loop hX (fun i : Nat => [(5, .tt), (8, .sbuf 1 1 0 l.length), (9, .niliface), (10, .nilslice), (11, .iface 93 (.ptr 2 0)), (12, .nilslice), (13, .iface 93 (.ptr 3 0)), (14, .sbuf 4 1 0 g.length), (16, .int .i64 (i : Int))]) (fun _ => (fH_lbn l e p ++ [IB (g)])) (fun i => i ≤ g.length) (fun i => g.length - i) 0 (Nat.zero_le _) ?_
    intro i hi0 I2 back
    have hi : i ≤ g.length := hi0
    by_cases h1 : i < g.length
    · have h2 : (i : Int) < (g.length : Int) := by omega
      have h3 := hrg i (by omega)
      have h4 : IntKind.i64.wrap ((i : Int) + 1) = (i : Int) + 1 := wi64 (by omega) (by omega)
      refine sx hX [] 4000 rfl (by (simp [conjP])) ?_
      refine sx hX [.T] 4000 rfl (by (simp [conjP, h1, h2, cellOff])) ?_
      refine sx hX [.F] 4000 rfl (by (simp [-List.getD_eq_getElem?_getD, -List.length_eq_zero_iff, conjP, addOP, h3, h4, cellOff])) ?_
      (refine back (i + 1) ?q1 ?q2 _ _ _ (sub_of [0, 1, 2, 3, 4] rfl rfl rfl rfl ?tt (by (repeat' (first | exact rfl | exact trivial | exact sim_refl _ | refine And.intro ?_ ?_))) (by (repeat' (first | exact rfl | exact trivial | exact sim_refl _ | refine And.intro ?_ ?_))) (by (repeat' (first | exact rfl | exact trivial | exact sim_refl _ | refine And.intro ?_ ?_)))); (case tt => refine ⟨by (repeat' (first | exact rfl | exact trivial | exact sim_refl _ | refine And.intro ?_ ?_)), by (repeat' (first | exact rfl | exact trivial | exact sim_refl _ | refine And.intro ?_ ?_)), by (repeat' (first | exact rfl | exact trivial | exact sim_refl _ | refine And.intro ?_ ?_)), by (repeat' (first | exact rfl | exact trivial | exact sim_refl _ | refine And.intro ?_ ?_)), by (repeat' (first | exact rfl | exact trivial | exact sim_refl _ | refine And.intro ?_ ?_)), by (repeat' (first | exact rfl | exact trivial | exact sim_refl _ | refine And.intro ?_ ?_)), by (repeat' (first | exact rfl | exact trivial | exact sim_refl _ | refine And.intro ?_ ?_)), by (repeat' (first | exact rfl | exact trivial | exact sim_refl _ | refine And.intro ?_ ?_)), ⟨rfl, by rw [h4]; omega⟩, trivial⟩); (case q1 => exact h1); (case q2 => omega))
    · have h2 : ¬ (i : Int) < (g.length : Int) := by omega
      refine sxb hX [.r 15] [] 4000 rfl (by (simp [conjP])) ?_
      refine sxb hX [.r 15] [.F] 4000 rfl (by (simp [conjP, addOP, h2])) ?_
      (refine ss_sub hX (T' := fT_lbn l e p) (H' := fH_lbn l e p) [0, 1, 2, 3] rfl rfl rfl rfl (by (repeat' (first | exact rfl | exact trivial | exact sim_refl _ | refine And.intro ?_ ?_))) (by (repeat' (first | exact rfl | exact trivial | exact sim_refl _ | refine And.intro ?_ ?_))) (by (repeat' (first | exact rfl | exact trivial | exact sim_refl _ | refine And.intro ?_ ?_))) (by (repeat' (first | exact rfl | exact trivial | exact sim_refl _ | refine And.intro ?_ ?_))) ?_; exact tail)
  have hrl := rng_len (cMod 6 l2 + cMod 6 l3).toNat
  have htn : (((cMod 6 l2 + cMod 6 l3).toNat : Nat) : Int) = cMod 6 l2 + cMod 6 l3 := by omega
  refine sxb hX [.r 10] [] 4000 rfl (by (simp [conjP, getH, HE.so, hr, sel0, sel1, e0, e1, o0, o1, hF, hMo])) ?_
  refine sxb hX [.r 10] [.F] 4000 rfl (by (simp [conjP])) ?_
  refine sxb hX [.r 10] [.F] 4000 rfl (by (simp [conjP, addOP, hbl, hrl, htn])) ?_
  (refine ss_sub hX (T' := [(5, .tt), (8, .sbuf 1 1 0 l.length), (9, .niliface), (10, .nilslice), (11, .iface 93 (.ptr 2 0)), (12, .nilslice), (13, .iface 93 (.ptr 3 0)), (14, .sbuf 4 1 0 (rngL (cMod 6 l2 + cMod 6 l3).toNat).length)]) (H' := (fH_lbn l e p ++ [IB (rngL (cMod 6 l2 + cMod 6 l3).toNat)])) [0, 4, 5, 6, 9] rfl rfl rfl rfl (by (repeat' (first | exact rfl | exact trivial | exact sim_refl _ | refine And.intro ?_ ?_))) (by (repeat' (first | exact rfl | exact trivial | exact sim_refl _ | refine And.intro ?_ ?_))) (by (repeat' (first | exact rfl | exact trivial | exact sim_refl _ | refine And.intro ?_ ?_))) (by (repeat' (first | exact rfl | exact trivial | exact sim_refl _ | refine And.intro ?_ ?_))) ?_; exact t1)

set_option maxHeartbeats 16000000 in
theorem fe_bnn_n (l0 l1 l2 l3 : Int) {a : Option Addr} {e p : Int} {Wl : List Int} (hla : (mkA (cAnd 1 l0) 4 (cAnd 1 l1) 2 4 (cMod 6 l2) 6 (cMod 6 l3) 2).W = Wl) (hU : InU Wl) (hlen : (Wl.length : Int) = sizeV (cAnd 1 l0) 4 (cAnd 1 l1) 4 (cMod 6 l2) 6 (cMod 6 l3)) (e0 : hsR (cAnd 1 l0) 4 (cAnd 1 l1) 2 4 (cMod 6 l2) 6 (cMod 6 l3) 2 0 Wl.length Wl = .bad e p) (e1 : hsR (cAnd 1 l0) 4 (cAnd 1 l1) 2 4 (cMod 6 l2) 6 (cMod 6 l3) 2 1 Wl.length Wl = .ok none) (eF : frR (.bad e p) (.ok none) = .bad e p) (he : e = 10 ∨ e = 16) (hM : cMod 6 l2 + cMod 6 l3 = 0) :
    Gives Tryd.prog 6 [L4 l0 l1 l2 l3, .raw (.slice a 0 0)] [pinE RTV] (Is .tt [pinE RTV]) := by
  subst hla
  have hr := cfg_rightH l0 l1 l2 l3
  have hsz2 := size_bd hr
  have hm2 := cMod6 l2
  have hm3 := cMod6 l3
  have o0 : lsOb (.bad e p) (mkA (cAnd 1 l0) 4 (cAnd 1 l1) 2 4 (cMod 6 l2) 6 (cMod 6 l3) 2).W.length (mkA (cAnd 1 l0) 4 (cAnd 1 l1) 2 4 (cMod 6 l2) 6 (cMod 6 l3) 2).W.length (mkA (cAnd 1 l0) 4 (cAnd 1 l1) 2 4 (cMod 6 l2) 6 (cMod 6 l3) 2).W := .inl ⟨rfl, rfl, hU⟩
  have o1 : lsOb (.ok none) (mkA (cAnd 1 l0) 4 (cAnd 1 l1) 2 4 (cMod 6 l2) 6 (cMod 6 l3) 2).W.length (mkA (cAnd 1 l0) 4 (cAnd 1 l1) 2 4 (cMod 6 l2) 6 (cMod 6 l3) 2).W.length (mkA (cAnd 1 l0) 4 (cAnd 1 l1) 2 4 (cMod 6 l2) 6 (cMod 6 l3) 2).W := .inl ⟨rfl, rfl, hU⟩
  have hF : fOb (cAnd 1 l0) 4 (cAnd 1 l1) 2 4 (cMod 6 l2) 6 (cMod 6 l3) 2 (.bad e p) (mkA (cAnd 1 l0) 4 (cAnd 1 l1) 2 4 (cMod 6 l2) 6 (cMod 6 l3) 2).W.length (mkA (cAnd 1 l0) 4 (cAnd 1 l1) 2 4 (cMod 6 l2) 6 (cMod 6 l3) 2).W.length (mkA (cAnd 1 l0) 4 (cAnd 1 l1) 2 4 (cMod 6 l2) 6 (cMod 6 l3) 2).W := .inl ⟨hr, rfl, rfl, hU, hlen, by omega, by rw [e0, e1]; exact eF⟩
  have hMk := mk_free hr
  rw [if_pos hM] at hMk
  have hMo : fOb (cAnd 1 l0) 4 (cAnd 1 l1) 2 4 (cMod 6 l2) 6 (cMod 6 l3) 2 (.ok none) (mkA (cAnd 1 l0) 4 (cAnd 1 l1) 2 4 (cMod 6 l2) 6 (cMod 6 l3) 2).W.length (mkA (cAnd 1 l0) 4 (cAnd 1 l1) 2 4 (cMod 6 l2) 6 (cMod 6 l3) 2).W.length (mkA (cAnd 1 l0) 4 (cAnd 1 l1) 2 4 (cMod 6 l2) 6 (cMod 6 l3) 2).W := .inl ⟨hr, rfl, rfl, mkA_in hr, by rw [mkA_len]; omega, by omega, hMk⟩
  have hbl : IntKind.i64.wrap (cMod 6 l2 + cMod 6 l3) = cMod 6 l2 + cMod 6 l3 := wi64 (by omega) (by omega)
  have hbl0 : IntKind.i64.wrap (cMod 6 l2 + cMod 6 l3) = 0 := by rw [hbl, hM]
  have hX := hXHh (mkA (cAnd 1 l0) 4 (cAnd 1 l1) 2 4 (cMod 6 l2) 6 (cMod 6 l3) 2).W (.bad e p) (.ok none) (.bad e p) (.ok none) 3
  refine gives_x hX (fn := Tryd.f6) rfl rfl rfl rfl fun ρ w => ?_
  have tail := ft_bnn (Wl := (mkA (cAnd 1 l0) 4 (cAnd 1 l1) 2 4 (cMod 6 l2) 6 (cMod 6 l3) 2).W) (e := e) (p := p) (rM := .ok none) (h0 := 3) he (ρ := ρ) (w := w)
  have t1 : SS (hXHh (mkA (cAnd 1 l0) 4 (cAnd 1 l1) 2 4 (cMod 6 l2) 6 (cMod 6 l3) 2).W (.bad e p) (.ok none) (.bad e p) (.ok none) 3) (At ρ w) (Is .tt [pinE RTV]) ⟨[], [], Tryd.f6, Tryd.f6.ntmps, [pinE RTV], contF Tryd.f6 10 [], [(5, .tt), (8, .nilslice), (9, .iface 93 (.ptr 1 0)), (10, .nilslice), (11, .niliface), (12, .nilslice), (13, .iface 93 (.ptr 2 0)), (14, .nilslice)], fH_bnn e p⟩ := by
    refine sxb hX [.l] [] 4000 rfl trivial ?_
    refine ss_sub hX (T' := [(5, .tt), (8, .nilslice), (9, .iface 93 (.ptr 1 0)), (10, .nilslice), (11, .niliface), (12, .nilslice), (13, .iface 93 (.ptr 2 0)), (14, .nilslice), (16, .int .i64 0)]) (H' := fH_bnn e p) [0, 1, 2] rfl rfl rfl rfl (by (repeat' (first | exact rfl | exact trivial | exact sim_refl _ | refine And.intro ?_ ?_))) (by (repeat' (first | exact rfl | exact trivial | exact sim_refl _ | refine And.intro ?_ ?_))) (by (repeat' (first | exact rfl | exact trivial | exact sim_refl _ | refine And.intro ?_ ?_))) (by (repeat' (first | exact rfl | exact trivial | exact sim_refl _ | refine And.intro ?_ ?_))) ?_
    refine ss_loop hX (fun _ : Unit => [(5, .tt), (8, .nilslice), (9, .iface 93 (.ptr 1 0)), (10, .nilslice), (11, .niliface), (12, .nilslice), (13, .iface 93 (.ptr 2 0)), (14, .nilslice), (16, .int .i64 0)]) (fun _ => fH_bnn e p) (fun _ => True) (fun _ => 0) () trivial ?_
    intro _ _ I2 _
    refine sxb hX [.r 15] [] 4000 rfl (by (simp [conjP])) ?_
    refine sxb hX [.r 15] [.F] 4000 rfl (by (simp [conjP, addOP])) ?_
    (refine ss_sub hX (T' := fT_bnn e p) (H' := fH_bnn e p) [0, 1, 2] rfl rfl rfl rfl (by (repeat' (first | exact rfl | exact trivial | exact sim_refl _ | refine And.intro ?_ ?_))) (by (repeat' (first | exact rfl | exact trivial | exact sim_refl _ | refine And.intro ?_ ?_))) (by (repeat' (first | exact rfl | exact trivial | exact sim_refl _ | refine And.intro ?_ ?_))) (by (repeat' (first | exact rfl | exact trivial | exact sim_refl _ | refine And.intro ?_ ?_))) ?_; exact tail)
  refine sxb hX [.r 10] [] 4000 rfl (by (simp [conjP, getH, HE.so, hr, sel0, sel1, e0, e1, o0, o1, hF, hMo])) ?_
  refine sxb hX [.r 10] [.F] 4000 rfl (by (simp [conjP])) ?_
  refine sxb hX [.r 10] [.F] 4000 rfl (by (simp [conjP, addOP, hbl0])) ?_
  (refine ss_sub hX (T' := [(5, .tt), (8, .nilslice), (9, .iface 93 (.ptr 1 0)), (10, .nilslice), (11, .niliface), (12, .nilslice), (13, .iface 93 (.ptr 2 0)), (14, .nilslice)]) (H' := fH_bnn e p) [0, 4, 5] rfl rfl rfl rfl (by (repeat' (first | exact rfl | exact trivial | exact sim_refl _ | refine And.intro ?_ ?_))) (by (repeat' (first | exact rfl | exact trivial | exact sim_refl _ | refine And.intro ?_ ?_))) (by (repeat' (first | exact rfl | exact trivial | exact sim_refl _ | refine And.intro ?_ ?_))) (by (repeat' (first | exact rfl | exact trivial | exact sim_refl _ | refine And.intro ?_ ?_))) ?_; exact t1)

set_option maxHeartbeats 16000000 in
theorem fe_bnn_g (l0 l1 l2 l3 : Int) {a : Option Addr} {e p : Int} {Wl : List Int} (hla : (mkA (cAnd 1 l0) 4 (cAnd 1 l1) 2 4 (cMod 6 l2) 6 (cMod 6 l3) 2).W = Wl) (hU : InU Wl) (hlen : (Wl.length : Int) = sizeV (cAnd 1 l0) 4 (cAnd 1 l1) 4 (cMod 6 l2) 6 (cMod 6 l3)) (e0 : hsR (cAnd 1 l0) 4 (cAnd 1 l1) 2 4 (cMod 6 l2) 6 (cMod 6 l3) 2 0 Wl.length Wl = .bad e p) (e1 : hsR (cAnd 1 l0) 4 (cAnd 1 l1) 2 4 (cMod 6 l2) 6 (cMod 6 l3) 2 1 Wl.length Wl = .ok none) (eF : frR (.bad e p) (.ok none) = .bad e p) (he : e = 10 ∨ e = 16) (hM : ¬ cMod 6 l2 + cMod 6 l3 = 0) :
    Gives Tryd.prog 6 [L4 l0 l1 l2 l3, .raw (.slice a 0 0)] [pinE RTV] (Is .tt [pinE RTV]) := by
  subst hla
  have hr := cfg_rightH l0 l1 l2 l3
  have hsz2 := size_bd hr
  have hm2 := cMod6 l2
  have hm3 := cMod6 l3
  have o0 : lsOb (.bad e p) (mkA (cAnd 1 l0) 4 (cAnd 1 l1) 2 4 (cMod 6 l2) 6 (cMod 6 l3) 2).W.length (mkA (cAnd 1 l0) 4 (cAnd 1 l1) 2 4 (cMod 6 l2) 6 (cMod 6 l3) 2).W.length (mkA (cAnd 1 l0) 4 (cAnd 1 l1) 2 4 (cMod 6 l2) 6 (cMod 6 l3) 2).W := .inl ⟨rfl, rfl, hU⟩
  have o1 : lsOb (.ok none) (mkA (cAnd 1 l0) 4 (cAnd 1 l1) 2 4 (cMod 6 l2) 6 (cMod 6 l3) 2).W.length (mkA (cAnd 1 l0) 4 (cAnd 1 l1) 2 4 (cMod 6 l2) 6 (cMod 6 l3) 2).W.length (mkA (cAnd 1 l0) 4 (cAnd 1 l1) 2 4 (cMod 6 l2) 6 (cMod 6 l3) 2).W := .inl ⟨rfl, rfl, hU⟩
  have hF : fOb (cAnd 1 l0) 4 (cAnd 1 l1) 2 4 (cMod 6 l2) 6 (cMod 6 l3) 2 (.bad e p) (mkA (cAnd 1 l0) 4 (cAnd 1 l1) 2 4 (cMod 6 l2) 6 (cMod 6 l3) 2).W.length (mkA (cAnd 1 l0) 4 (cAnd 1 l1) 2 4 (cMod 6 l2) 6 (cMod 6 l3) 2).W.length (mkA (cAnd 1 l0) 4 (cAnd 1 l1) 2 4 (cMod 6 l2) 6 (cMod 6 l3) 2).W := .inl ⟨hr, rfl, rfl, hU, hlen, by omega, by rw [e0, e1]; exact eF⟩
  have hMk := mk_free hr
  rw [if_neg hM] at hMk
  have hMo : fOb (cAnd 1 l0) 4 (cAnd 1 l1) 2 4 (cMod 6 l2) 6 (cMod 6 l3) 2 (.ok (some (rngL (cMod 6 l2 + cMod 6 l3).toNat))) (mkA (cAnd 1 l0) 4 (cAnd 1 l1) 2 4 (cMod 6 l2) 6 (cMod 6 l3) 2).W.length (mkA (cAnd 1 l0) 4 (cAnd 1 l1) 2 4 (cMod 6 l2) 6 (cMod 6 l3) 2).W.length (mkA (cAnd 1 l0) 4 (cAnd 1 l1) 2 4 (cMod 6 l2) 6 (cMod 6 l3) 2).W := .inl ⟨hr, rfl, rfl, mkA_in hr, by rw [mkA_len]; omega, by omega, hMk⟩
  have hbl : IntKind.i64.wrap (cMod 6 l2 + cMod 6 l3) = cMod 6 l2 + cMod 6 l3 := wi64 (by omega) (by omega)
  skip
  have hX := hXHh (mkA (cAnd 1 l0) 4 (cAnd 1 l1) 2 4 (cMod 6 l2) 6 (cMod 6 l3) 2).W (.bad e p) (.ok none) (.bad e p) (.ok (some (rngL (cMod 6 l2 + cMod 6 l3).toNat))) 3
  refine gives_x hX (fn := Tryd.f6) rfl rfl rfl rfl fun ρ w => ?_
  have tail := ft_bnn (Wl := (mkA (cAnd 1 l0) 4 (cAnd 1 l1) 2 4 (cMod 6 l2) 6 (cMod 6 l3) 2).W) (e := e) (p := p) (rM := .ok (some (rngL (cMod 6 l2 + cMod 6 l3).toNat))) (h0 := 3) he (ρ := ρ) (w := w)
  have t1 : SS (hXHh (mkA (cAnd 1 l0) 4 (cAnd 1 l1) 2 4 (cMod 6 l2) 6 (cMod 6 l3) 2).W (.bad e p) (.ok none) (.bad e p) (.ok (some (rngL (cMod 6 l2 + cMod 6 l3).toNat))) 3) (At ρ w) (Is .tt [pinE RTV]) ⟨[], [], Tryd.f6, Tryd.f6.ntmps, [pinE RTV], contF Tryd.f6 10 [], [(5, .tt), (8, .nilslice), (9, .iface 93 (.ptr 1 0)), (10, .nilslice), (11, .niliface), (12, .nilslice), (13, .iface 93 (.ptr 2 0)), (14, .sbuf 3 1 0 (rngL (cMod 6 l2 + cMod 6 l3).toNat).length)], (fH_bnn e p ++ [IB (rngL (cMod 6 l2 + cMod 6 l3).toNat)])⟩ := by
    refine sxb hX [.l] [] 4000 rfl trivial ?_
    have hrl := rng_len (cMod 6 l2 + cMod 6 l3).toNat
    have htn : (((cMod 6 l2 + cMod 6 l3).toNat : Nat) : Int) = cMod 6 l2 + cMod 6 l3 := by omega
    have hrg := fun (i : Nat) (h : i < (cMod 6 l2 + cMod 6 l3).toNat) => rng_get h
    generalize rngL (cMod 6 l2 + cMod 6 l3).toNat = g at *
    refine ss_sub hX (T' := [(5, .tt), (8, .nilslice), (9, .iface 93 (.ptr 1 0)), (10, .nilslice), (11, .niliface), (12, .nilslice), (13, .iface 93 (.ptr 2 0)), (14, .sbuf 3 1 0 g.length), (16, .int .i64 ((0 : Nat) : Int))]) (H' := (fH_bnn e p ++ [IB (g)])) [0, 1, 2, 3] rfl rfl rfl rfl (by (repeat' (first | exact rfl | exact trivial | exact sim_refl _ | refine And.intro ?_ ?_))) (by (repeat' (first | exact rfl | exact trivial | exact sim_refl _ | refine And.intro ?_ ?_))) (by (repeat' (first | exact rfl | exact trivial | exact sim_refl _ | refine And.intro ?_ ?_))) (by (repeat' (first | exact rfl | exact trivial | exact sim_refl _ | refine And.intro ?_ ?_))) ?_
    refine ss_loop hX (fun i : Nat => [(5, .tt), (8, .nilslice), (9, .iface 93 (.ptr 1 0)), (10, .nilslice), (11, .niliface), (12, .nilslice), (13, .iface 93 (.ptr 2 0)), (14, .sbuf 3 1 0 g.length), (16, .int .i64 (i : Int))]) (fun _ => (fH_bnn e p ++ [IB (g)])) (fun i => i ≤ g.length) (fun i => g.length - i) 0 (Nat.zero_le _) ?_
    intro i hi0 I2 back
    have hi : i ≤ g.length := hi0
    by_cases h1 : i < g.length
    · have h2 : (i : Int) < (g.length : Int) := by omega
      have h3 := hrg i (by omega)
      have h4 : IntKind.i64.wrap ((i : Int) + 1) = (i : Int) + 1 := wi64 (by omega) (by omega)
      refine sx hX [] 4000 rfl (by (simp [conjP])) ?_
      refine sx hX [.T] 4000 rfl (by (simp [conjP, h1, h2, cellOff])) ?_
      refine sx hX [.F] 4000 rfl (by (simp [-List.getD_eq_getElem?_getD, -List.length_eq_zero_iff, conjP, addOP, h3, h4, cellOff])) ?_
      (refine back (i + 1) ?q1 ?q2 _ _ _ (sub_of [0, 1, 2, 3] rfl rfl rfl rfl ?tt (by (repeat' (first | exact rfl | exact trivial | exact sim_refl _ | refine And.intro ?_ ?_))) (by (repeat' (first | exact rfl | exact trivial | exact sim_refl _ | refine And.intro ?_ ?_))) (by (repeat' (first | exact rfl | exact trivial | exact sim_refl _ | refine And.intro ?_ ?_)))); (case tt => refine ⟨by (repeat' (first | exact rfl | exact trivial | exact sim_refl _ | refine And.intro ?_ ?_)), by (repeat' (first | exact rfl | exact trivial | exact sim_refl _ | refine And.intro ?_ ?_)), by (repeat' (first | exact rfl | exact trivial | exact sim_refl _ | refine And.intro ?_ ?_)), by (repeat' (first | exact rfl | exact trivial | exact sim_refl _ | refine And.intro ?_ ?_)), by (repeat' (first | exact rfl | exact trivial | exact sim_refl _ | refine And.intro ?_ ?_)), by (repeat' (first | exact rfl | exact trivial | exact sim_refl _ | refine And.intro ?_ ?_)), by (repeat' (first | exact rfl | exact trivial | exact sim_refl _ | refine And.intro ?_ ?_)), by (repeat' (first | exact rfl | exact trivial | exact sim_refl _ | refine And.intro ?_ ?_)), ⟨rfl, by rw [h4]; omega⟩, trivial⟩); (case q1 => exact h1); (case q2 => omega))
    · have h2 : ¬ (i : Int) < (g.length : Int) := by omega
      refine sxb hX [.r 15] [] 4000 rfl (by (simp [conjP])) ?_
      refine sxb hX [.r 15] [.F] 4000 rfl (by (simp [conjP, addOP, h2])) ?_
      (refine ss_sub hX (T' := fT_bnn e p) (H' := fH_bnn e p) [0, 1, 2] rfl rfl rfl rfl (by (repeat' (first | exact rfl | exact trivial | exact sim_refl _ | refine And.intro ?_ ?_))) (by (repeat' (first | exact rfl | exact trivial | exact sim_refl _ | refine And.intro ?_ ?_))) (by (repeat' (first | exact rfl | exact trivial | exact sim_refl _ | refine And.intro ?_ ?_))) (by (repeat' (first | exact rfl | exact trivial | exact sim_refl _ | refine And.intro ?_ ?_))) ?_; exact tail)
  have hrl := rng_len (cMod 6 l2 + cMod 6 l3).toNat
  have htn : (((cMod 6 l2 + cMod 6 l3).toNat : Nat) : Int) = cMod 6 l2 + cMod 6 l3 := by omega
  refine sxb hX [.r 10] [] 4000 rfl (by (simp [conjP, getH, HE.so, hr, sel0, sel1, e0, e1, o0, o1, hF, hMo])) ?_
  refine sxb hX [.r 10] [.F] 4000 rfl (by (simp [conjP])) ?_
  refine sxb hX [.r 10] [.F] 4000 rfl (by (simp [conjP, addOP, hbl, hrl, htn])) ?_
  (refine ss_sub hX (T' := [(5, .tt), (8, .nilslice), (9, .iface 93 (.ptr 1 0)), (10, .nilslice), (11, .niliface), (12, .nilslice), (13, .iface 93 (.ptr 2 0)), (14, .sbuf 3 1 0 (rngL (cMod 6 l2 + cMod 6 l3).toNat).length)]) (H' := (fH_bnn e p ++ [IB (rngL (cMod 6 l2 + cMod 6 l3).toNat)])) [0, 4, 5, 8] rfl rfl rfl rfl (by (repeat' (first | exact rfl | exact trivial | exact sim_refl _ | refine And.intro ?_ ?_))) (by (repeat' (first | exact rfl | exact trivial | exact sim_refl _ | refine And.intro ?_ ?_))) (by (repeat' (first | exact rfl | exact trivial | exact sim_refl _ | refine And.intro ?_ ?_))) (by (repeat' (first | exact rfl | exact trivial | exact sim_refl _ | refine And.intro ?_ ?_))) ?_; exact t1)

set_option maxHeartbeats 16000000 in
theorem fe_bmn_n (l0 l1 l2 l3 : Int) {a : Option Addr} {m : List Int} {e p : Int} {Wl : List Int} (hla : (mkA (cAnd 1 l0) 4 (cAnd 1 l1) 2 4 (cMod 6 l2) 6 (cMod 6 l3) 2).W = Wl) (hU : InU Wl) (hlen : (Wl.length : Int) = sizeV (cAnd 1 l0) 4 (cAnd 1 l1) 4 (cMod 6 l2) 6 (cMod 6 l3)) (e0 : hsR (cAnd 1 l0) 4 (cAnd 1 l1) 2 4 (cMod 6 l2) 6 (cMod 6 l3) 2 0 Wl.length Wl = .bad e p) (e1 : hsR (cAnd 1 l0) 4 (cAnd 1 l1) 2 4 (cMod 6 l2) 6 (cMod 6 l3) 2 1 Wl.length Wl = .ok (some m)) (eF : frR (.bad e p) (.ok (some m)) = .bad e p) (he : e = 10 ∨ e = 16) (hM : cMod 6 l2 + cMod 6 l3 = 0) :
    Gives Tryd.prog 6 [L4 l0 l1 l2 l3, .raw (.slice a 0 0)] [pinE RTV] (Is .tt [pinE RTV]) := by
  subst hla
  have hr := cfg_rightH l0 l1 l2 l3
  have hsz2 := size_bd hr
  have hm2 := cMod6 l2
  have hm3 := cMod6 l3
  have o0 : lsOb (.bad e p) (mkA (cAnd 1 l0) 4 (cAnd 1 l1) 2 4 (cMod 6 l2) 6 (cMod 6 l3) 2).W.length (mkA (cAnd 1 l0) 4 (cAnd 1 l1) 2 4 (cMod 6 l2) 6 (cMod 6 l3) 2).W.length (mkA (cAnd 1 l0) 4 (cAnd 1 l1) 2 4 (cMod 6 l2) 6 (cMod 6 l3) 2).W := .inl ⟨rfl, rfl, hU⟩
  have o1 : lsOb (.ok (some m)) (mkA (cAnd 1 l0) 4 (cAnd 1 l1) 2 4 (cMod 6 l2) 6 (cMod 6 l3) 2).W.length (mkA (cAnd 1 l0) 4 (cAnd 1 l1) 2 4 (cMod 6 l2) 6 (cMod 6 l3) 2).W.length (mkA (cAnd 1 l0) 4 (cAnd 1 l1) 2 4 (cMod 6 l2) 6 (cMod 6 l3) 2).W := .inl ⟨rfl, rfl, hU⟩
  have hF : fOb (cAnd 1 l0) 4 (cAnd 1 l1) 2 4 (cMod 6 l2) 6 (cMod 6 l3) 2 (.bad e p) (mkA (cAnd 1 l0) 4 (cAnd 1 l1) 2 4 (cMod 6 l2) 6 (cMod 6 l3) 2).W.length (mkA (cAnd 1 l0) 4 (cAnd 1 l1) 2 4 (cMod 6 l2) 6 (cMod 6 l3) 2).W.length (mkA (cAnd 1 l0) 4 (cAnd 1 l1) 2 4 (cMod 6 l2) 6 (cMod 6 l3) 2).W := .inl ⟨hr, rfl, rfl, hU, hlen, by omega, by rw [e0, e1]; exact eF⟩
  have hMk := mk_free hr
  rw [if_pos hM] at hMk
  have hMo : fOb (cAnd 1 l0) 4 (cAnd 1 l1) 2 4 (cMod 6 l2) 6 (cMod 6 l3) 2 (.ok none) (mkA (cAnd 1 l0) 4 (cAnd 1 l1) 2 4 (cMod 6 l2) 6 (cMod 6 l3) 2).W.length (mkA (cAnd 1 l0) 4 (cAnd 1 l1) 2 4 (cMod 6 l2) 6 (cMod 6 l3) 2).W.length (mkA (cAnd 1 l0) 4 (cAnd 1 l1) 2 4 (cMod 6 l2) 6 (cMod 6 l3) 2).W := .inl ⟨hr, rfl, rfl, mkA_in hr, by rw [mkA_len]; omega, by omega, hMk⟩
  have hbl : IntKind.i64.wrap (cMod 6 l2 + cMod 6 l3) = cMod 6 l2 + cMod 6 l3 := wi64 (by omega) (by omega)
  have hbl0 : IntKind.i64.wrap (cMod 6 l2 + cMod 6 l3) = 0 := by rw [hbl, hM]
  have hX := hXHh (mkA (cAnd 1 l0) 4 (cAnd 1 l1) 2 4 (cMod 6 l2) 6 (cMod 6 l3) 2).W (.bad e p) (.ok (some m)) (.bad e p) (.ok none) 3
  refine gives_x hX (fn := Tryd.f6) rfl rfl rfl rfl fun ρ w => ?_
  have tail := ft_bmn (Wl := (mkA (cAnd 1 l0) 4 (cAnd 1 l1) 2 4 (cMod 6 l2) 6 (cMod 6 l3) 2).W) (m := m) (e := e) (p := p) (rM := .ok none) (h0 := 3) he (ρ := ρ) (w := w)
  have t1 : SS (hXHh (mkA (cAnd 1 l0) 4 (cAnd 1 l1) 2 4 (cMod 6 l2) 6 (cMod 6 l3) 2).W (.bad e p) (.ok (some m)) (.bad e p) (.ok none) 3) (At ρ w) (Is .tt [pinE RTV]) ⟨[], [], Tryd.f6, Tryd.f6.ntmps, [pinE RTV], contF Tryd.f6 10 [], [(5, .tt), (8, .nilslice), (9, .iface 93 (.ptr 1 0)), (10, .sbuf 2 1 0 m.length), (11, .niliface), (12, .nilslice), (13, .iface 93 (.ptr 3 0)), (14, .nilslice)], fH_bmn m e p⟩ := by
    refine sxb hX [.l] [] 4000 rfl trivial ?_
    refine ss_sub hX (T' := [(5, .tt), (8, .nilslice), (9, .iface 93 (.ptr 1 0)), (10, .sbuf 2 1 0 m.length), (11, .niliface), (12, .nilslice), (13, .iface 93 (.ptr 3 0)), (14, .nilslice), (16, .int .i64 0)]) (H' := fH_bmn m e p) [0, 1, 2, 3] rfl rfl rfl rfl (by (repeat' (first | exact rfl | exact trivial | exact sim_refl _ | refine And.intro ?_ ?_))) (by (repeat' (first | exact rfl | exact trivial | exact sim_refl _ | refine And.intro ?_ ?_))) (by (repeat' (first | exact rfl | exact trivial | exact sim_refl _ | refine And.intro ?_ ?_))) (by (repeat' (first | exact rfl | exact trivial | exact sim_refl _ | refine And.intro ?_ ?_))) ?_
    refine ss_loop hX (fun _ : Unit => [(5, .tt), (8, .nilslice), (9, .iface 93 (.ptr 1 0)), (10, .sbuf 2 1 0 m.length), (11, .niliface), (12, .nilslice), (13, .iface 93 (.ptr 3 0)), (14, .nilslice), (16, .int .i64 0)]) (fun _ => fH_bmn m e p) (fun _ => True) (fun _ => 0) () trivial ?_
    intro _ _ I2 _
    refine sxb hX [.r 15] [] 4000 rfl (by (simp [conjP])) ?_
    refine sxb hX [.r 15] [.F] 4000 rfl (by (simp [conjP, addOP])) ?_
    (refine ss_sub hX (T' := fT_bmn m e p) (H' := fH_bmn m e p) [0, 1, 2, 3] rfl rfl rfl rfl (by (repeat' (first | exact rfl | exact trivial | exact sim_refl _ | refine And.intro ?_ ?_))) (by (repeat' (first | exact rfl | exact trivial | exact sim_refl _ | refine And.intro ?_ ?_))) (by (repeat' (first | exact rfl | exact trivial | exact sim_refl _ | refine And.intro ?_ ?_))) (by (repeat' (first | exact rfl | exact trivial | exact sim_refl _ | refine And.intro ?_ ?_))) ?_; exact tail)
  refine sxb hX [.r 10] [] 4000 rfl (by (simp [conjP, getH, HE.so, hr, sel0, sel1, e0, e1, o0, o1, hF, hMo])) ?_
  refine sxb hX [.r 10] [.F] 4000 rfl (by (simp [conjP])) ?_
  refine sxb hX [.r 10] [.F] 4000 rfl (by (simp [conjP, addOP, hbl0])) ?_
  (refine ss_sub hX (T' := [(5, .tt), (8, .nilslice), (9, .iface 93 (.ptr 1 0)), (10, .sbuf 2 1 0 m.length), (11, .niliface), (12, .nilslice), (13, .iface 93 (.ptr 3 0)), (14, .nilslice)]) (H' := fH_bmn m e p) [0, 4, 5, 6] rfl rfl rfl rfl (by (repeat' (first | exact rfl | exact trivial | exact sim_refl _ | refine And.intro ?_ ?_))) (by (repeat' (first | exact rfl | exact trivial | exact sim_refl _ | refine And.intro ?_ ?_))) (by (repeat' (first | exact rfl | exact trivial | exact sim_refl _ | refine And.intro ?_ ?_))) (by (repeat' (first | exact rfl | exact trivial | exact sim_refl _ | refine And.intro ?_ ?_))) ?_; exact t1)

set_option maxHeartbeats 16000000 in
theorem fe_bmn_g (l0 l1 l2 l3 : Int) {a : Option Addr} {m : List Int} {e p : Int} {Wl : List Int} (hla : (mkA (cAnd 1 l0) 4 (cAnd 1 l1) 2 4 (cMod 6 l2) 6 (cMod 6 l3) 2).W = Wl) (hU : InU Wl) (hlen : (Wl.length : Int) = sizeV (cAnd 1 l0) 4 (cAnd 1 l1) 4 (cMod 6 l2) 6 (cMod 6 l3)) (e0 : hsR (cAnd 1 l0) 4 (cAnd 1 l1) 2 4 (cMod 6 l2) 6 (cMod 6 l3) 2 0 Wl.length Wl = .bad e p) (e1 : hsR (cAnd 1 l0) 4 (cAnd 1 l1) 2 4 (cMod 6 l2) 6 (cMod 6 l3) 2 1 Wl.length Wl = .ok (some m)) (eF : frR (.bad e p) (.ok (some m)) = .bad e p) (he : e = 10 ∨ e = 16) (hM : ¬ cMod 6 l2 + cMod 6 l3 = 0) :
    Gives Tryd.prog 6 [L4 l0 l1 l2 l3, .raw (.slice a 0 0)] [pinE RTV] (Is .tt [pinE RTV]) := by
  subst hla
  have hr := cfg_rightH l0 l1 l2 l3
  have hsz2 := size_bd hr
  have hm2 := cMod6 l2
  have hm3 := cMod6 l3
  have o0 : lsOb (.bad e p) (mkA (cAnd 1 l0) 4 (cAnd 1 l1) 2 4 (cMod 6 l2) 6 (cMod 6 l3) 2).W.length (mkA (cAnd 1 l0) 4 (cAnd 1 l1) 2 4 (cMod 6 l2) 6 (cMod 6 l3) 2).W.length (mkA (cAnd 1 l0) 4 (cAnd 1 l1) 2 4 (cMod 6 l2) 6 (cMod 6 l3) 2).W := .inl ⟨rfl, rfl, hU⟩
  have o1 : lsOb (.ok (some m)) (mkA (cAnd 1 l0) 4 (cAnd 1 l1) 2 4 (cMod 6 l2) 6 (cMod 6 l3) 2).W.length (mkA (cAnd 1 l0) 4 (cAnd 1 l1) 2 4 (cMod 6 l2) 6 (cMod 6 l3) 2).W.length (mkA (cAnd 1 l0) 4 (cAnd 1 l1) 2 4 (cMod 6 l2) 6 (cMod 6 l3) 2).W := .inl ⟨rfl, rfl, hU⟩
  have hF : fOb (cAnd 1 l0) 4 (cAnd 1 l1) 2 4 (cMod 6 l2) 6 (cMod 6 l3) 2 (.bad e p) (mkA (cAnd 1 l0) 4 (cAnd 1 l1) 2 4 (cMod 6 l2) 6 (cMod 6 l3) 2).W.length (mkA (cAnd 1 l0) 4 (cAnd 1 l1) 2 4 (cMod 6 l2) 6 (cMod 6 l3) 2).W.length (mkA (cAnd 1 l0) 4 (cAnd 1 l1) 2 4 (cMod 6 l2) 6 (cMod 6 l3) 2).W := .inl ⟨hr, rfl, rfl, hU, hlen, by omega, by rw [e0, e1]; exact eF⟩
  have hMk := mk_free hr
  rw [if_neg hM] at hMk
  have hMo : fOb (cAnd 1 l0) 4 (cAnd 1 l1) 2 4 (cMod 6 l2) 6 (cMod 6 l3) 2 (.ok (some (rngL (cMod 6 l2 + cMod 6 l3).toNat))) (mkA (cAnd 1 l0) 4 (cAnd 1 l1) 2 4 (cMod 6 l2) 6 (cMod 6 l3) 2).W.length (mkA (cAnd 1 l0) 4 (cAnd 1 l1) 2 4 (cMod 6 l2) 6 (cMod 6 l3) 2).W.length (mkA (cAnd 1 l0) 4 (cAnd 1 l1) 2 4 (cMod 6 l2) 6 (cMod 6 l3) 2).W := .inl ⟨hr, rfl, rfl, mkA_in hr, by rw [mkA_len]; omega, by omega, hMk⟩
  have hbl : IntKind.i64.wrap (cMod 6 l2 + cMod 6 l3) = cMod 6 l2 + cMod 6 l3 := wi64 (by omega) (by omega)
  skip
  have hX := hXHh (mkA (cAnd 1 l0) 4 (cAnd 1 l1) 2 4 (cMod 6 l2) 6 (cMod 6 l3) 2).W (.bad e p) (.ok (some m)) (.bad e p) (.ok (some (rngL (cMod 6 l2 + cMod 6 l3).toNat))) 3
  refine gives_x hX (fn := Tryd.f6) rfl rfl rfl rfl fun ρ w => ?_
  have tail := ft_bmn (Wl := (mkA (cAnd 1 l0) 4 (cAnd 1 l1) 2 4 (cMod 6 l2) 6 (cMod 6 l3) 2).W) (m := m) (e := e) (p := p) (rM := .ok (some (rngL (cMod 6 l2 + cMod 6 l3).toNat))) (h0 := 3) he (ρ := ρ) (w := w)
  have t1 : SS (hXHh (mkA (cAnd 1 l0) 4 (cAnd 1 l1) 2 4 (cMod 6 l2) 6 (cMod 6 l3) 2).W (.bad e p) (.ok (some m)) (.bad e p) (.ok (some (rngL (cMod 6 l2 + cMod 6 l3).toNat))) 3) (At ρ w) (Is .tt [pinE RTV]) ⟨[], [], Tryd.f6, Tryd.f6.ntmps, [pinE RTV], contF Tryd.f6 10 [], [(5, .tt), (8, .nilslice), (9, .iface 93 (.ptr 1 0)), (10, .sbuf 2 1 0 m.length), (11, .niliface), (12, .nilslice), (13, .iface 93 (.ptr 3 0)), (14, .sbuf 4 1 0 (rngL (cMod 6 l2 + cMod 6 l3).toNat).length)], (fH_bmn m e p ++ [IB (rngL (cMod 6 l2 + cMod 6 l3).toNat)])⟩ := by
    refine sxb hX [.l] [] 4000 rfl trivial ?_
    have hrl := rng_len (cMod 6 l2 + cMod 6 l3).toNat
    have htn : (((cMod 6 l2 + cMod 6 l3).toNat : Nat) : Int) = cMod 6 l2 + cMod 6 l3 := by omega
    have hrg := fun (i : Nat) (h : i < (cMod 6 l2 + cMod 6 l3).toNat) => rng_get h
    generalize rngL (cMod 6 l2 + cMod 6 l3).toNat = g at *
    refine ss_sub hX (T' := [(5, .tt), (8, .nilslice), (9, .iface 93 (.ptr 1 0)), (10, .sbuf 2 1 0 m.length), (11, .niliface), (12, .nilslice), (13, .iface 93 (.ptr 3 0)), (14, .sbuf 4 1 0 g.length), (16, .int .i64 ((0 : Nat) : Int))]) (H' := (fH_bmn m e p ++ [IB (g)])) [0, 1, 2, 3, 4] rfl rfl rfl rfl (by (repeat' (first | exact rfl | exact trivial | exact sim_refl _ | refine And.intro ?_ ?_))) (by (repeat' (first | exact rfl | exact trivial | exact sim_refl _ | refine And.intro ?_ ?_))) (by (repeat' (first | exact rfl | exact trivial | exact sim_refl _ | refine And.intro ?_ ?_))) (by (repeat' (first | exact rfl | exact trivial | exact sim_refl _ | refine And.intro ?_ ?_))) ?_
    refine ss_loop hX (fun i : Nat => [(5, .tt), (8, .nilslice), (9, .iface 93 (.ptr 1 0)), (10, .sbuf 2 1 0 m.length), (11, .niliface), (12, .nilslice), (13, .iface 93 (.ptr 3 0)), (14, .sbuf 4 1 0 g.length), (16, .int .i64 (i : Int))]) (fun _ => (fH_bmn m e p ++ [IB (g)])) (fun i => i ≤ g.length) (fun i => g.length - i) 0 (Nat.zero_le _) ?_
    intro i hi0 I2 back
    have hi : i ≤ g.length := hi0
    by_cases h1 : i < g.length
    · have h2 : (i : Int) < (g.length : Int) := by omega
      have h3 := hrg i (by omega)
      have h4 : IntKind.i64.wrap ((i : Int) + 1) = (i : Int) + 1 := wi64 (by omega) (by omega)
      refine sx hX [] 4000 rfl (by (simp [conjP])) ?_
      refine sx hX [.T] 4000 rfl (by (simp [conjP, h1, h2, cellOff])) ?_
      refine sx hX [.F] 4000 rfl (by (simp [-List.getD_eq_getElem?_getD, -List.length_eq_zero_iff, conjP, addOP, h3, h4, cellOff])) ?_
      (refine back (i + 1) ?q1 ?q2 _ _ _ (sub_of [0, 1, 2, 3, 4] rfl rfl rfl rfl ?tt (by (repeat' (first | exact rfl | exact trivial | exact sim_refl _ | refine And.intro ?_ ?_))) (by (repeat' (first | exact rfl | exact trivial | exact sim_refl _ | refine And.intro ?_ ?_))) (by (repeat' (first | exact rfl | exact trivial | exact sim_refl _ | refine And.intro ?_ ?_)))); (case tt => refine ⟨by (repeat' (first | exact rfl | exact trivial | exact sim_refl _ | refine And.intro ?_ ?_)), by (repeat' (first | exact rfl | exact trivial | exact sim_refl _ | refine And.intro ?_ ?_)), by (repeat' (first | exact rfl | exact trivial | exact sim_refl _ | refine And.intro ?_ ?_)), by (repeat' (first | exact rfl | exact trivial | exact sim_refl _ | refine And.intro ?_ ?_)), by (repeat' (first | exact rfl | exact trivial | exact sim_refl _ | refine And.intro ?_ ?_)), by (repeat' (first | exact rfl | exact trivial | exact sim_refl _ | refine And.intro ?_ ?_)), by (repeat' (first | exact rfl | exact trivial | exact sim_refl _ | refine And.intro ?_ ?_)), by (repeat' (first | exact rfl | exact trivial | exact sim_refl _ | refine And.intro ?_ ?_)), ⟨rfl, by rw [h4]; omega⟩, trivial⟩); (case q1 => exact h1); (case q2 => omega))
    · have h2 : ¬ (i : Int) < (g.length : Int) := by omega
      refine sxb hX [.r 15] [] 4000 rfl (by (simp [conjP])) ?_
      refine sxb hX [.r 15] [.F] 4000 rfl (by (simp [conjP, addOP, h2])) ?_
      (refine ss_sub hX (T' := fT_bmn m e p) (H' := fH_bmn m e p) [0, 1, 2, 3] rfl rfl rfl rfl (by (repeat' (first | exact rfl | exact trivial | exact sim_refl _ | refine And.intro ?_ ?_))) (by (repeat' (first | exact rfl | exact trivial | exact sim_refl _ | refine And.intro ?_ ?_))) (by (repeat' (first | exact rfl | exact trivial | exact sim_refl _ | refine And.intro ?_ ?_))) (by (repeat' (first | exact rfl | exact trivial | exact sim_refl _ | refine And.intro ?_ ?_))) ?_; exact tail)
  have hrl := rng_len (cMod 6 l2 + cMod 6 l3).toNat
  have htn : (((cMod 6 l2 + cMod 6 l3).toNat : Nat) : Int) = cMod 6 l2 + cMod 6 l3 := by omega
  refine sxb hX [.r 10] [] 4000 rfl (by (simp [conjP, getH, HE.so, hr, sel0, sel1, e0, e1, o0, o1, hF, hMo])) ?_
  refine sxb hX [.r 10] [.F] 4000 rfl (by (simp [conjP])) ?_
  refine sxb hX [.r 10] [.F] 4000 rfl (by (simp [conjP, addOP, hbl, hrl, htn])) ?_
  (refine ss_sub hX (T' := [(5, .tt), (8, .nilslice), (9, .iface 93 (.ptr 1 0)), (10, .sbuf 2 1 0 m.length), (11, .niliface), (12, .nilslice), (13, .iface 93 (.ptr 3 0)), (14, .sbuf 4 1 0 (rngL (cMod 6 l2 + cMod 6 l3).toNat).length)]) (H' := (fH_bmn m e p ++ [IB (rngL (cMod 6 l2 + cMod 6 l3).toNat)])) [0, 4, 5, 6, 9] rfl rfl rfl rfl (by (repeat' (first | exact rfl | exact trivial | exact sim_refl _ | refine And.intro ?_ ?_))) (by (repeat' (first | exact rfl | exact trivial | exact sim_refl _ | refine And.intro ?_ ?_))) (by (repeat' (first | exact rfl | exact trivial | exact sim_refl _ | refine And.intro ?_ ?_))) (by (repeat' (first | exact rfl | exact trivial | exact sim_refl _ | refine And.intro ?_ ?_))) ?_; exact t1)

set_option maxHeartbeats 16000000 in
theorem fe_bcn_n (l0 l1 l2 l3 : Int) {a : Option Addr} {e p : Int} {e2 p2 : Int} {Wl : List Int} (hla : (mkA (cAnd 1 l0) 4 (cAnd 1 l1) 2 4 (cMod 6 l2) 6 (cMod 6 l3) 2).W = Wl) (hU : InU Wl) (hlen : (Wl.length : Int) = sizeV (cAnd 1 l0) 4 (cAnd 1 l1) 4 (cMod 6 l2) 6 (cMod 6 l3)) (e0 : hsR (cAnd 1 l0) 4 (cAnd 1 l1) 2 4 (cMod 6 l2) 6 (cMod 6 l3) 2 0 Wl.length Wl = .bad e p) (e1 : hsR (cAnd 1 l0) 4 (cAnd 1 l1) 2 4 (cMod 6 l2) 6 (cMod 6 l3) 2 1 Wl.length Wl = .bad e2 p2) (eF : frR (.bad e p) (.bad e2 p2) = .bad e p) (he : e = 10 ∨ e = 16) (hM : cMod 6 l2 + cMod 6 l3 = 0) :
    Gives Tryd.prog 6 [L4 l0 l1 l2 l3, .raw (.slice a 0 0)] [pinE RTV] (Is .tt [pinE RTV]) := by
  subst hla
  have hr := cfg_rightH l0 l1 l2 l3
  have hsz2 := size_bd hr
  have hm2 := cMod6 l2
  have hm3 := cMod6 l3
  have o0 : lsOb (.bad e p) (mkA (cAnd 1 l0) 4 (cAnd 1 l1) 2 4 (cMod 6 l2) 6 (cMod 6 l3) 2).W.length (mkA (cAnd 1 l0) 4 (cAnd 1 l1) 2 4 (cMod 6 l2) 6 (cMod 6 l3) 2).W.length (mkA (cAnd 1 l0) 4 (cAnd 1 l1) 2 4 (cMod 6 l2) 6 (cMod 6 l3) 2).W := .inl ⟨rfl, rfl, hU⟩
  have o1 : lsOb (.bad e2 p2) (mkA (cAnd 1 l0) 4 (cAnd 1 l1) 2 4 (cMod 6 l2) 6 (cMod 6 l3) 2).W.length (mkA (cAnd 1 l0) 4 (cAnd 1 l1) 2 4 (cMod 6 l2) 6 (cMod 6 l3) 2).W.length (mkA (cAnd 1 l0) 4 (cAnd 1 l1) 2 4 (cMod 6 l2) 6 (cMod 6 l3) 2).W := .inl ⟨rfl, rfl, hU⟩
  have hF : fOb (cAnd 1 l0) 4 (cAnd 1 l1) 2 4 (cMod 6 l2) 6 (cMod 6 l3) 2 (.bad e p) (mkA (cAnd 1 l0) 4 (cAnd 1 l1) 2 4 (cMod 6 l2) 6 (cMod 6 l3) 2).W.length (mkA (cAnd 1 l0) 4 (cAnd 1 l1) 2 4 (cMod 6 l2) 6 (cMod 6 l3) 2).W.length (mkA (cAnd 1 l0) 4 (cAnd 1 l1) 2 4 (cMod 6 l2) 6 (cMod 6 l3) 2).W := .inl ⟨hr, rfl, rfl, hU, hlen, by omega, by rw [e0, e1]; exact eF⟩
  have hMk := mk_free hr
  rw [if_pos hM] at hMk
  have hMo : fOb (cAnd 1 l0) 4 (cAnd 1 l1) 2 4 (cMod 6 l2) 6 (cMod 6 l3) 2 (.ok none) (mkA (cAnd 1 l0) 4 (cAnd 1 l1) 2 4 (cMod 6 l2) 6 (cMod 6 l3) 2).W.length (mkA (cAnd 1 l0) 4 (cAnd 1 l1) 2 4 (cMod 6 l2) 6 (cMod 6 l3) 2).W.length (mkA (cAnd 1 l0) 4 (cAnd 1 l1) 2 4 (cMod 6 l2) 6 (cMod 6 l3) 2).W := .inl ⟨hr, rfl, rfl, mkA_in hr, by rw [mkA_len]; omega, by omega, hMk⟩
  have hbl : IntKind.i64.wrap (cMod 6 l2 + cMod 6 l3) = cMod 6 l2 + cMod 6 l3 := wi64 (by omega) (by omega)
  have hbl0 : IntKind.i64.wrap (cMod 6 l2 + cMod 6 l3) = 0 := by rw [hbl, hM]
  have hX := hXHh (mkA (cAnd 1 l0) 4 (cAnd 1 l1) 2 4 (cMod 6 l2) 6 (cMod 6 l3) 2).W (.bad e p) (.bad e2 p2) (.bad e p) (.ok none) 3
  refine gives_x hX (fn := Tryd.f6) rfl rfl rfl rfl fun ρ w => ?_
  have tail := ft_bcn (Wl := (mkA (cAnd 1 l0) 4 (cAnd 1 l1) 2 4 (cMod 6 l2) 6 (cMod 6 l3) 2).W) (e := e) (p := p) (e2 := e2) (p2 := p2) (rM := .ok none) (h0 := 3) he (ρ := ρ) (w := w)
  have t1 : SS (hXHh (mkA (cAnd 1 l0) 4 (cAnd 1 l1) 2 4 (cMod 6 l2) 6 (cMod 6 l3) 2).W (.bad e p) (.bad e2 p2) (.bad e p) (.ok none) 3) (At ρ w) (Is .tt [pinE RTV]) ⟨[], [], Tryd.f6, Tryd.f6.ntmps, [pinE RTV], contF Tryd.f6 10 [], [(5, .tt), (8, .nilslice), (9, .iface 93 (.ptr 1 0)), (10, .nilslice), (11, .iface 93 (.ptr 2 0)), (12, .nilslice), (13, .iface 93 (.ptr 3 0)), (14, .nilslice)], fH_bcn e p e2 p2⟩ := by
    refine sxb hX [.l] [] 4000 rfl trivial ?_
    refine ss_sub hX (T' := [(5, .tt), (8, .nilslice), (9, .iface 93 (.ptr 1 0)), (10, .nilslice), (11, .iface 93 (.ptr 2 0)), (12, .nilslice), (13, .iface 93 (.ptr 3 0)), (14, .nilslice), (16, .int .i64 0)]) (H' := fH_bcn e p e2 p2) [0, 1, 2, 3] rfl rfl rfl rfl (by (repeat' (first | exact rfl | exact trivial | exact sim_refl _ | refine And.intro ?_ ?_))) (by (repeat' (first | exact rfl | exact trivial | exact sim_refl _ | refine And.intro ?_ ?_))) (by (repeat' (first | exact rfl | exact trivial | exact sim_refl _ | refine And.intro ?_ ?_))) (by (repeat' (first | exact rfl | exact trivial | exact sim_refl _ | refine And.intro ?_ ?_))) ?_
    refine ss_loop hX (fun _ : Unit => [(5, .tt), (8, .nilslice), (9, .iface 93 (.ptr 1 0)), (10, .nilslice), (11, .iface 93 (.ptr 2 0)), (12, .nilslice), (13, .iface 93 (.ptr 3 0)), (14, .nilslice), (16, .int .i64 0)]) (fun _ => fH_bcn e p e2 p2) (fun _ => True) (fun _ => 0) () trivial ?_
    intro _ _ I2 _
    refine sxb hX [.r 15] [] 4000 rfl (by (simp [conjP])) ?_
    refine sxb hX [.r 15] [.F] 4000 rfl (by (simp [conjP, addOP])) ?_
    (refine ss_sub hX (T' := fT_bcn e p e2 p2) (H' := fH_bcn e p e2 p2) [0, 1, 2, 3] rfl rfl rfl rfl (by (repeat' (first | exact rfl | exact trivial | exact sim_refl _ | refine And.intro ?_ ?_))) (by (repeat' (first | exact rfl | exact trivial | exact sim_refl _ | refine And.intro ?_ ?_))) (by (repeat' (first | exact rfl | exact trivial | exact sim_refl _ | refine And.intro ?_ ?_))) (by (repeat' (first | exact rfl | exact trivial | exact sim_refl _ | refine And.intro ?_ ?_))) ?_; exact tail)
  refine sxb hX [.r 10] [] 4000 rfl (by (simp [conjP, getH, HE.so, hr, sel0, sel1, e0, e1, o0, o1, hF, hMo])) ?_
  refine sxb hX [.r 10] [.F] 4000 rfl (by (simp [conjP])) ?_
  refine sxb hX [.r 10] [.F] 4000 rfl (by (simp [conjP, addOP, hbl0])) ?_
  (refine ss_sub hX (T' := [(5, .tt), (8, .nilslice), (9, .iface 93 (.ptr 1 0)), (10, .nilslice), (11, .iface 93 (.ptr 2 0)), (12, .nilslice), (13, .iface 93 (.ptr 3 0)), (14, .nilslice)]) (H' := fH_bcn e p e2 p2) [0, 4, 5, 6] rfl rfl rfl rfl (by (repeat' (first | exact rfl | exact trivial | exact sim_refl _ | refine And.intro ?_ ?_))) (by (repeat' (first | exact rfl | exact trivial | exact sim_refl _ | refine And.intro ?_ ?_))) (by (repeat' (first | exact rfl | exact trivial | exact sim_refl _ | refine And.intro ?_ ?_))) (by (repeat' (first | exact rfl | exact trivial | exact sim_refl _ | refine And.intro ?_ ?_))) ?_; exact t1)

set_option maxHeartbeats 16000000 in
theorem fe_bcn_g (l0 l1 l2 l3 : Int) {a : Option Addr} {e p : Int} {e2 p2 : Int} {Wl : List Int} (hla : (mkA (cAnd 1 l0) 4 (cAnd 1 l1) 2 4 (cMod 6 l2) 6 (cMod 6 l3) 2).W = Wl) (hU : InU Wl) (hlen : (Wl.length : Int) = sizeV (cAnd 1 l0) 4 (cAnd 1 l1) 4 (cMod 6 l2) 6 (cMod 6 l3)) (e0 : hsR (cAnd 1 l0) 4 (cAnd 1 l1) 2 4 (cMod 6 l2) 6 (cMod 6 l3) 2 0 Wl.length Wl = .bad e p) (e1 : hsR (cAnd 1 l0) 4 (cAnd 1 l1) 2 4 (cMod 6 l2) 6 (cMod 6 l3) 2 1 Wl.length Wl = .bad e2 p2) (eF : frR (.bad e p) (.bad e2 p2) = .bad e p) (he : e = 10 ∨ e = 16) (hM : ¬ cMod 6 l2 + cMod 6 l3 = 0) :
    Gives Tryd.prog 6 [L4 l0 l1 l2 l3, .raw (.slice a 0 0)] [pinE RTV] (Is .tt [pinE RTV]) := by
  subst hla
  have hr := cfg_rightH l0 l1 l2 l3
  have hsz2 := size_bd hr
  have hm2 := cMod6 l2
  have hm3 := cMod6 l3
  have o0 : lsOb (.bad e p) (mkA (cAnd 1 l0) 4 (cAnd 1 l1) 2 4 (cMod 6 l2) 6 (cMod 6 l3) 2).W.length (mkA (cAnd 1 l0) 4 (cAnd 1 l1) 2 4 (cMod 6 l2) 6 (cMod 6 l3) 2).W.length (mkA (cAnd 1 l0) 4 (cAnd 1 l1) 2 4 (cMod 6 l2) 6 (cMod 6 l3) 2).W := .inl ⟨rfl, rfl, hU⟩
  have o1 : lsOb (.bad e2 p2) (mkA (cAnd 1 l0) 4 (cAnd 1 l1) 2 4 (cMod 6 l2) 6 (cMod 6 l3) 2).W.length (mkA (cAnd 1 l0) 4 (cAnd 1 l1) 2 4 (cMod 6 l2) 6 (cMod 6 l3) 2).W.length (mkA (cAnd 1 l0) 4 (cAnd 1 l1) 2 4 (cMod 6 l2) 6 (cMod 6 l3) 2).W := .inl ⟨rfl, rfl, hU⟩
  have hF : fOb (cAnd 1 l0) 4 (cAnd 1 l1) 2 4 (cMod 6 l2) 6 (cMod 6 l3) 2 (.bad e p) (mkA (cAnd 1 l0) 4 (cAnd 1 l1) 2 4 (cMod 6 l2) 6 (cMod 6 l3) 2).W.length (mkA (cAnd 1 l0) 4 (cAnd 1 l1) 2 4 (cMod 6 l2) 6 (cMod 6 l3) 2).W.length (mkA (cAnd 1 l0) 4 (cAnd 1 l1) 2 4 (cMod 6 l2) 6 (cMod 6 l3) 2).W := .inl ⟨hr, rfl, rfl, hU, hlen, by omega, by rw [e0, e1]; exact eF⟩
  have hMk := mk_free hr
  rw [if_neg hM] at hMk
  have hMo : fOb (cAnd 1 l0) 4 (cAnd 1 l1) 2 4 (cMod 6 l2) 6 (cMod 6 l3) 2 (.ok (some (rngL (cMod 6 l2 + cMod 6 l3).toNat))) (mkA (cAnd 1 l0) 4 (cAnd 1 l1) 2 4 (cMod 6 l2) 6 (cMod 6 l3) 2).W.length (mkA (cAnd 1 l0) 4 (cAnd 1 l1) 2 4 (cMod 6 l2) 6 (cMod 6 l3) 2).W.length (mkA (cAnd 1 l0) 4 (cAnd 1 l1) 2 4 (cMod 6 l2) 6 (cMod 6 l3) 2).W := .inl ⟨hr, rfl, rfl, mkA_in hr, by rw [mkA_len]; omega, by omega, hMk⟩
  have hbl : IntKind.i64.wrap (cMod 6 l2 + cMod 6 l3) = cMod 6 l2 + cMod 6 l3 := wi64 (by omega) (by omega)
  skip
  have hX := hXHh (mkA (cAnd 1 l0) 4 (cAnd 1 l1) 2 4 (cMod 6 l2) 6 (cMod 6 l3) 2).W (.bad e p) (.bad e2 p2) (.bad e p) (.ok (some (rngL (cMod 6 l2 + cMod 6 l3).toNat))) 3
  refine gives_x hX (fn := Tryd.f6) rfl rfl rfl rfl fun ρ w => ?_
  have tail := ft_bcn (Wl := (mkA (cAnd 1 l0) 4 (cAnd 1 l1) 2 4 (cMod 6 l2) 6 (cMod 6 l3) 2).W) (e := e) (p := p) (e2 := e2) (p2 := p2) (rM := .ok (some (rngL (cMod 6 l2 + cMod 6 l3).toNat))) (h0 := 3) he (ρ := ρ) (w := w)
  have t1 : SS (hXHh (mkA (cAnd 1 l0) 4 (cAnd 1 l1) 2 4 (cMod 6 l2) 6 (cMod 6 l3) 2).W (.bad e p) (.bad e2 p2) (.bad e p) (.ok (some (rngL (cMod 6 l2 + cMod 6 l3).toNat))) 3) (At ρ w) (Is .tt [pinE RTV]) ⟨[], [], Tryd.f6, Tryd.f6.ntmps, [pinE RTV], contF Tryd.f6 10 [], [(5, .tt), (8, .nilslice), (9, .iface 93 (.ptr 1 0)), (10, .nilslice), (11, .iface 93 (.ptr 2 0)), (12, .nilslice), (13, .iface 93 (.ptr 3 0)), (14, .sbuf 4 1 0 (rngL (cMod 6 l2 + cMod 6 l3).toNat).length)], (fH_bcn e p e2 p2 ++ [IB (rngL (cMod 6 l2 + cMod 6 l3).toNat)])⟩ := by
    refine sxb hX [.l] [] 4000 rfl trivial ?_
    have hrl := rng_len (cMod 6 l2 + cMod 6 l3).toNat
    have htn : (((cMod 6 l2 + cMod 6 l3).toNat : Nat) : Int) = cMod 6 l2 + cMod 6 l3 := by omega
    have hrg := fun (i : Nat) (h : i < (cMod 6 l2 + cMod 6 l3).toNat) => rng_get h
    generalize rngL (cMod 6 l2 + cMod 6 l3).toNat = g at *
    refine ss_sub hX (T' := [(5, .tt), (8, .nilslice), (9, .iface 93 (.ptr 1 0)), (10, .nilslice), (11, .iface 93 (.ptr 2 0)), (12, .nilslice), (13, .iface 93 (.ptr 3 0)), (14, .sbuf 4 1 0 g.length), (16, .int .i64 ((0 : Nat) : Int))]) (H' := (fH_bcn e p e2 p2 ++ [IB (g)])) [0, 1, 2, 3, 4] rfl rfl rfl rfl (by (repeat' (first | exact rfl | exact trivial | exact sim_refl _ | refine And.intro ?_ ?_))) (by (repeat' (first | exact rfl | exact trivial | exact sim_refl _ | refine And.intro ?_ ?_))) (by (repeat' (first | exact rfl | exact trivial | exact sim_refl _ | refine And.intro ?_ ?_))) (by (repeat' (first | exact rfl | exact trivial | exact sim_refl _ | refine And.intro ?_ ?_))) ?_
    refine ss_loop hX (fun i : Nat => [(5, .tt), (8, .nilslice), (9, .iface 93 (.ptr 1 0)), (10, .nilslice), (11, .iface 93 (.ptr 2 0)), (12, .nilslice), (13, .iface 93 (.ptr 3 0)), (14, .sbuf 4 1 0 g.length), (16, .int .i64 (i : Int))]) (fun _ => (fH_bcn e p e2 p2 ++ [IB (g)])) (fun i => i ≤ g.length) (fun i => g.length - i) 0 (Nat.zero_le _) ?_
    intro i hi0 I2 back
    have hi : i ≤ g.length := hi0
    by_cases h1 : i < g.length
    · have h2 : (i : Int) < (g.length : Int) := by omega
      have h3 := hrg i (by omega)
      have h4 : IntKind.i64.wrap ((i : Int) + 1) = (i : Int) + 1 := wi64 (by omega) (by omega)
      refine sx hX [] 4000 rfl (by (simp [conjP])) ?_
      refine sx hX [.T] 4000 rfl (by (simp [conjP, h1, h2, cellOff])) ?_
      refine sx hX [.F] 4000 rfl (by (simp [-List.getD_eq_getElem?_getD, -List.length_eq_zero_iff, conjP, addOP, h3, h4, cellOff])) ?_
      (refine back (i + 1) ?q1 ?q2 _ _ _ (sub_of [0, 1, 2, 3, 4] rfl rfl rfl rfl ?tt (by (repeat' (first | exact rfl | exact trivial | exact sim_refl _ | refine And.intro ?_ ?_))) (by (repeat' (first | exact rfl | exact trivial | exact sim_refl _ | refine And.intro ?_ ?_))) (by (repeat' (first | exact rfl | exact trivial | exact sim_refl _ | refine And.intro ?_ ?_)))); (case tt => refine ⟨by (repeat' (first | exact rfl | exact trivial | exact sim_refl _ | refine And.intro ?_ ?_)), by (repeat' (first | exact rfl | exact trivial | exact sim_refl _ | refine And.intro ?_ ?_)), by (repeat' (first | exact rfl | exact trivial | exact sim_refl _ | refine And.intro ?_ ?_)), by (repeat' (first | exact rfl | exact trivial | exact sim_refl _ | refine And.intro ?_ ?_)), by (repeat' (first | exact rfl | exact trivial | exact sim_refl _ | refine And.intro ?_ ?_)), by (repeat' (first | exact rfl | exact trivial | exact sim_refl _ | refine And.intro ?_ ?_)), by (repeat' (first | exact rfl | exact trivial | exact sim_refl _ | refine And.intro ?_ ?_)), by (repeat' (first | exact rfl | exact trivial | exact sim_refl _ | refine And.intro ?_ ?_)), ⟨rfl, by rw [h4]; omega⟩, trivial⟩); (case q1 => exact h1); (case q2 => omega))
    · have h2 : ¬ (i : Int) < (g.length : Int) := by omega
      refine sxb hX [.r 15] [] 4000 rfl (by (simp [conjP])) ?_
      refine sxb hX [.r 15] [.F] 4000 rfl (by (simp [conjP, addOP, h2])) ?_
      (refine ss_sub hX (T' := fT_bcn e p e2 p2) (H' := fH_bcn e p e2 p2) [0, 1, 2, 3] rfl rfl rfl rfl (by (repeat' (first | exact rfl | exact trivial | exact sim_refl _ | refine And.intro ?_ ?_))) (by (repeat' (first | exact rfl | exact trivial | exact sim_refl _ | refine And.intro ?_ ?_))) (by (repeat' (first | exact rfl | exact trivial | exact sim_refl _ | refine And.intro ?_ ?_))) (by (repeat' (first | exact rfl | exact trivial | exact sim_refl _ | refine And.intro ?_ ?_))) ?_; exact tail)
  have hrl := rng_len (cMod 6 l2 + cMod 6 l3).toNat
  have htn : (((cMod 6 l2 + cMod 6 l3).toNat : Nat) : Int) = cMod 6 l2 + cMod 6 l3 := by omega
  refine sxb hX [.r 10] [] 4000 rfl (by (simp [conjP, getH, HE.so, hr, sel0, sel1, e0, e1, o0, o1, hF, hMo])) ?_
  refine sxb hX [.r 10] [.F] 4000 rfl (by (simp [conjP])) ?_
  refine sxb hX [.r 10] [.F] 4000 rfl (by (simp [conjP, addOP, hbl, hrl, htn])) ?_
  (refine ss_sub hX (T' := [(5, .tt), (8, .nilslice), (9, .iface 93 (.ptr 1 0)), (10, .nilslice), (11, .iface 93 (.ptr 2 0)), (12, .nilslice), (13, .iface 93 (.ptr 3 0)), (14, .sbuf 4 1 0 (rngL (cMod 6 l2 + cMod 6 l3).toNat).length)]) (H' := (fH_bcn e p e2 p2 ++ [IB (rngL (cMod 6 l2 + cMod 6 l3).toNat)])) [0, 4, 5, 6, 9] rfl rfl rfl rfl (by (repeat' (first | exact rfl | exact trivial | exact sim_refl _ | refine And.intro ?_ ?_))) (by (repeat' (first | exact rfl | exact trivial | exact sim_refl _ | refine And.intro ?_ ?_))) (by (repeat' (first | exact rfl | exact trivial | exact sim_refl _ | refine And.intro ?_ ?_))) (by (repeat' (first | exact rfl | exact trivial | exact sim_refl _ | refine And.intro ?_ ?_))) ?_; exact t1)

end Go.Proofs.YtfdkaakllceebaaDoor
