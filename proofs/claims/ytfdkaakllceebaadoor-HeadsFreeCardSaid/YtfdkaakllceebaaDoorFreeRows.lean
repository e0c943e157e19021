/- HeadsFree: from its entry to its end. -/
import Derived.Test.YtfdkaakllceebaaDoorFreeTails
namespace Go.Proofs.YtfdkaakllceebaaDoor
open Go Go.Hx
set_option maxRecDepth 8000

set_option maxHeartbeats 16000000 in
theorem fe_nn_n (l0 l1 l2 l3 : Int) {n cap : Nat} {o : Nat → SetP} {Wl : List Int} (hla : laOb (cAnd 1 l0) 4 (cAnd 1 l1) 4 (cMod 6 l2) 6 (cMod 6 l3) (mkA (cAnd 1 l0) 4 (cAnd 1 l1) 2 4 (cMod 6 l2) 6 (cMod 6 l3) 2).W (setRow o) n Wl) (hU : InU Wl) (hlen : (Wl.length : Int) = sizeV (cAnd 1 l0) 4 (cAnd 1 l1) 4 (cMod 6 l2) 6 (cMod 6 l3)) (e0 : hsR (cAnd 1 l0) 4 (cAnd 1 l1) 2 4 (cMod 6 l2) 6 (cMod 6 l3) 2 0 Wl.length Wl = .ok none) (e1 : hsR (cAnd 1 l0) 4 (cAnd 1 l1) 2 4 (cMod 6 l2) 6 (cMod 6 l3) 2 1 Wl.length Wl = .ok none) (eF : frR (.ok none) (.ok none) = .ok none) (hM : cMod 6 l2 + cMod 6 l3 = 0) :
    Gives Tryd.prog 6 [L4 l0 l1 l2 l3, .slice 0 0 n cap] [stO n o, pinE RTV] (Is .tt [stO n o, pinE RTV]) := by
  skip
  have hr := cfg_rightH l0 l1 l2 l3
  have hsz2 := size_bd hr
  have hm2 := cMod6 l2
  have hm3 := cMod6 l3
  have o0 : lsOb (.ok none) Wl.length Wl.length Wl := .inl ⟨rfl, rfl, hU⟩
  have o1 : lsOb (.ok none) Wl.length Wl.length Wl := .inl ⟨rfl, rfl, hU⟩
  have hF : fOb (cAnd 1 l0) 4 (cAnd 1 l1) 2 4 (cMod 6 l2) 6 (cMod 6 l3) 2 (.ok none) Wl.length Wl.length Wl := .inl ⟨hr, rfl, rfl, hU, hlen, by omega, by rw [e0, e1]; exact eF⟩
  have hMk := mk_free hr
  rw [if_pos hM] at hMk
  have hMo : fOb (cAnd 1 l0) 4 (cAnd 1 l1) 2 4 (cMod 6 l2) 6 (cMod 6 l3) 2 (.ok none) (mkA (cAnd 1 l0) 4 (cAnd 1 l1) 2 4 (cMod 6 l2) 6 (cMod 6 l3) 2).W.length (mkA (cAnd 1 l0) 4 (cAnd 1 l1) 2 4 (cMod 6 l2) 6 (cMod 6 l3) 2).W.length (mkA (cAnd 1 l0) 4 (cAnd 1 l1) 2 4 (cMod 6 l2) 6 (cMod 6 l3) 2).W := .inl ⟨hr, rfl, rfl, mkA_in hr, by rw [mkA_len]; omega, by omega, hMk⟩
  have hbl : IntKind.i64.wrap (cMod 6 l2 + cMod 6 l3) = cMod 6 l2 + cMod 6 l3 := wi64 (by omega) (by omega)
  have hbl0 : IntKind.i64.wrap (cMod 6 l2 + cMod 6 l3) = 0 := by rw [hbl, hM]
  have hX := hXHh Wl (.ok none) (.ok none) (.ok none) (.ok none) 4
  refine gives_x hX (fn := Tryd.f6) rfl rfl rfl rfl fun ρ w => ?_
  have tail := ft_nn n o (Wl := Wl) (rM := .ok none) (h0 := 4) (ρ := ρ) (w := w)
  have t1 : SS (hXHh Wl (.ok none) (.ok none) (.ok none) (.ok none) 4) (At ρ w) (Is .tt [stO n o, pinE RTV]) ⟨[], [], Tryd.f6, Tryd.f6.ntmps, [stO n o, pinE RTV], contF Tryd.f6 10 [], [(5, .tt), (8, .nilslice), (9, .niliface), (10, .nilslice), (11, .niliface), (12, .nilslice), (13, .niliface), (14, .nilslice)], fH_nn n o⟩ := by
    refine sxb hX [.l] [] 4000 rfl trivial ?_
    refine ss_sub hX (T' := [(5, .tt), (8, .nilslice), (9, .niliface), (10, .nilslice), (11, .niliface), (12, .nilslice), (13, .niliface), (14, .nilslice), (16, .int .i64 0)]) (H' := fH_nn n o) [0, 1] rfl rfl rfl rfl (by (repeat' (first | exact rfl | exact trivial | exact sim_refl _ | refine And.intro ?_ ?_))) (by (repeat' (first | exact rfl | exact trivial | exact sim_refl _ | refine And.intro ?_ ?_))) (by (repeat' (first | exact rfl | exact trivial | exact sim_refl _ | refine And.intro ?_ ?_))) (by (repeat' (first | exact rfl | exact trivial | exact sim_refl _ | refine And.intro ?_ ?_))) ?_
    refine ss_loop hX (fun _ : Unit => [(5, .tt), (8, .nilslice), (9, .niliface), (10, .nilslice), (11, .niliface), (12, .nilslice), (13, .niliface), (14, .nilslice), (16, .int .i64 0)]) (fun _ => fH_nn n o) (fun _ => True) (fun _ => 0) () trivial ?_
    intro _ _ I2 _
    refine sxb hX [.r 15] [] 4000 rfl (by (simp [conjP])) ?_
    refine sxb hX [.r 15] [.F] 4000 rfl (by (simp [conjP, addOP])) ?_
    (refine ss_sub hX (T' := fT_nn) (H' := fH_nn n o) [0, 1] rfl rfl rfl rfl (by (repeat' (first | exact rfl | exact trivial | exact sim_refl _ | refine And.intro ?_ ?_))) (by (repeat' (first | exact rfl | exact trivial | exact sim_refl _ | refine And.intro ?_ ?_))) (by (repeat' (first | exact rfl | exact trivial | exact sim_refl _ | refine And.intro ?_ ?_))) (by (repeat' (first | exact rfl | exact trivial | exact sim_refl _ | refine And.intro ?_ ?_))) ?_; exact tail)
  refine sxb hX [.r 10] [] 4000 rfl (by (simp [conjP, getH, HE.so, hr, hla, sel0, sel1, e0, e1, o0, hF, hMo])) ?_
  refine sxb hX [.r 10] [.F] 4000 rfl (by (simp [conjP])) ?_
  refine sxb hX [.r 10] [.F] 4000 rfl (by (simp [conjP, addOP, hbl0])) ?_
  (refine ss_sub hX (T' := [(5, .tt), (8, .nilslice), (9, .niliface), (10, .nilslice), (11, .niliface), (12, .nilslice), (13, .niliface), (14, .nilslice)]) (H' := fH_nn n o) [0, 1] rfl rfl rfl rfl (by (repeat' (first | exact rfl | exact trivial | exact sim_refl _ | refine And.intro ?_ ?_))) (by (repeat' (first | exact rfl | exact trivial | exact sim_refl _ | refine And.intro ?_ ?_))) (by (repeat' (first | exact rfl | exact trivial | exact sim_refl _ | refine And.intro ?_ ?_))) (by (repeat' (first | exact rfl | exact trivial | exact sim_refl _ | refine And.intro ?_ ?_))) ?_; exact t1)

set_option maxHeartbeats 16000000 in
theorem fe_nn_g (l0 l1 l2 l3 : Int) {n cap : Nat} {o : Nat → SetP} {Wl : List Int} (hla : laOb (cAnd 1 l0) 4 (cAnd 1 l1) 4 (cMod 6 l2) 6 (cMod 6 l3) (mkA (cAnd 1 l0) 4 (cAnd 1 l1) 2 4 (cMod 6 l2) 6 (cMod 6 l3) 2).W (setRow o) n Wl) (hU : InU Wl) (hlen : (Wl.length : Int) = sizeV (cAnd 1 l0) 4 (cAnd 1 l1) 4 (cMod 6 l2) 6 (cMod 6 l3)) (e0 : hsR (cAnd 1 l0) 4 (cAnd 1 l1) 2 4 (cMod 6 l2) 6 (cMod 6 l3) 2 0 Wl.length Wl = .ok none) (e1 : hsR (cAnd 1 l0) 4 (cAnd 1 l1) 2 4 (cMod 6 l2) 6 (cMod 6 l3) 2 1 Wl.length Wl = .ok none) (eF : frR (.ok none) (.ok none) = .ok none) (hM : ¬ cMod 6 l2 + cMod 6 l3 = 0) :
    Gives Tryd.prog 6 [L4 l0 l1 l2 l3, .slice 0 0 n cap] [stO n o, pinE RTV] (Is .tt [stO n o, pinE RTV]) := by
  skip
  have hr := cfg_rightH l0 l1 l2 l3
  have hsz2 := size_bd hr
  have hm2 := cMod6 l2
  have hm3 := cMod6 l3
  have o0 : lsOb (.ok none) Wl.length Wl.length Wl := .inl ⟨rfl, rfl, hU⟩
  have o1 : lsOb (.ok none) Wl.length Wl.length Wl := .inl ⟨rfl, rfl, hU⟩
  have hF : fOb (cAnd 1 l0) 4 (cAnd 1 l1) 2 4 (cMod 6 l2) 6 (cMod 6 l3) 2 (.ok none) Wl.length Wl.length Wl := .inl ⟨hr, rfl, rfl, hU, hlen, by omega, by rw [e0, e1]; exact eF⟩
  have hMk := mk_free hr
  rw [if_neg hM] at hMk
  have hMo : fOb (cAnd 1 l0) 4 (cAnd 1 l1) 2 4 (cMod 6 l2) 6 (cMod 6 l3) 2 (.ok (some (rngL (cMod 6 l2 + cMod 6 l3).toNat))) (mkA (cAnd 1 l0) 4 (cAnd 1 l1) 2 4 (cMod 6 l2) 6 (cMod 6 l3) 2).W.length (mkA (cAnd 1 l0) 4 (cAnd 1 l1) 2 4 (cMod 6 l2) 6 (cMod 6 l3) 2).W.length (mkA (cAnd 1 l0) 4 (cAnd 1 l1) 2 4 (cMod 6 l2) 6 (cMod 6 l3) 2).W := .inl ⟨hr, rfl, rfl, mkA_in hr, by rw [mkA_len]; omega, by omega, hMk⟩
  have hbl : IntKind.i64.wrap (cMod 6 l2 + cMod 6 l3) = cMod 6 l2 + cMod 6 l3 := wi64 (by omega) (by omega)
  skip
  have hX := hXHh Wl (.ok none) (.ok none) (.ok none) (.ok (some (rngL (cMod 6 l2 + cMod 6 l3).toNat))) 4
  refine gives_x hX (fn := Tryd.f6) rfl rfl rfl rfl fun ρ w => ?_
  have tail := ft_nn n o (Wl := Wl) (rM := .ok (some (rngL (cMod 6 l2 + cMod 6 l3).toNat))) (h0 := 4) (ρ := ρ) (w := w)
  have t1 : SS (hXHh Wl (.ok none) (.ok none) (.ok none) (.ok (some (rngL (cMod 6 l2 + cMod 6 l3).toNat))) 4) (At ρ w) (Is .tt [stO n o, pinE RTV]) ⟨[], [], Tryd.f6, Tryd.f6.ntmps, [stO n o, pinE RTV], contF Tryd.f6 10 [], [(5, .tt), (8, .nilslice), (9, .niliface), (10, .nilslice), (11, .niliface), (12, .nilslice), (13, .niliface), (14, .sbuf 2 1 0 (rngL (cMod 6 l2 + cMod 6 l3).toNat).length)], (fH_nn n o ++ [IB (rngL (cMod 6 l2 + cMod 6 l3).toNat)])⟩ := by
    refine sxb hX [.l] [] 4000 rfl trivial ?_
    have hrl := rng_len (cMod 6 l2 + cMod 6 l3).toNat
    have htn : (((cMod 6 l2 + cMod 6 l3).toNat : Nat) : Int) = cMod 6 l2 + cMod 6 l3 := by omega
    have hrg := fun (i : Nat) (h : i < (cMod 6 l2 + cMod 6 l3).toNat) => rng_get h
    generalize rngL (cMod 6 l2 + cMod 6 l3).toNat = g at *
    refine ss_sub hX (T' := [(5, .tt), (8, .nilslice), (9, .niliface), (10, .nilslice), (11, .niliface), (12, .nilslice), (13, .niliface), (14, .sbuf 2 1 0 g.length), (16, .int .i64 ((0 : Nat) : Int))]) (H' := (fH_nn n o ++ [IB (g)])) [0, 1, 2] rfl rfl rfl rfl (by (repeat' (first | exact rfl | exact trivial | exact sim_refl _ | refine And.intro ?_ ?_))) (by (repeat' (first | exact rfl | exact trivial | exact sim_refl _ | refine And.intro ?_ ?_))) (by (repeat' (first | exact rfl | exact trivial | exact sim_refl _ | refine And.intro ?_ ?_))) (by (repeat' (first | exact rfl | exact trivial | exact sim_refl _ | refine And.intro ?_ ?_))) ?_
    refine ss_loop hX (fun i : Nat => [(5, .tt), (8, .nilslice), (9, .niliface), (10, .nilslice), (11, .niliface), (12, .nilslice), (13, .niliface), (14, .sbuf 2 1 0 g.length), (16, .int .i64 (i : Int))]) (fun _ => (fH_nn n o ++ [IB (g)])) (fun i => i ≤ g.length) (fun i => g.length - i) 0 (Nat.zero_le _) ?_
    intro i hi0 I2 back
    have hi : i ≤ g.length := hi0
    by_cases h1 : i < g.length
    · have h2 : (i : Int) < (g.length : Int) := by omega
      have h3 := hrg i (by omega)
      have h4 : IntKind.i64.wrap ((i : Int) + 1) = (i : Int) + 1 := wi64 (by omega) (by omega)
      refine sx hX [] 4000 rfl (by (simp [conjP])) ?_
      refine sx hX [.T] 4000 rfl (by (simp [conjP, h1, h2, cellOff])) ?_
      refine sx hX [.F] 4000 rfl (by (simp [-List.getD_eq_getElem?_getD, -List.length_eq_zero_iff, conjP, addOP, h3, h4, cellOff])) ?_
      (refine back (i + 1) ?q1 ?q2 _ _ _ (sub_of [0, 1, 2] rfl rfl rfl rfl ?tt (by (repeat' (first | exact rfl | exact trivial | exact sim_refl _ | refine And.intro ?_ ?_))) (by (repeat' (first | exact rfl | exact trivial | exact sim_refl _ | refine And.intro ?_ ?_))) (by (repeat' (first | exact rfl | exact trivial | exact sim_refl _ | refine And.intro ?_ ?_)))); (case tt => refine ⟨by (repeat' (first | exact rfl | exact trivial | exact sim_refl _ | refine And.intro ?_ ?_)), by (repeat' (first | exact rfl | exact trivial | exact sim_refl _ | refine And.intro ?_ ?_)), by (repeat' (first | exact rfl | exact trivial | exact sim_refl _ | refine And.intro ?_ ?_)), by (repeat' (first | exact rfl | exact trivial | exact sim_refl _ | refine And.intro ?_ ?_)), by (repeat' (first | exact rfl | exact trivial | exact sim_refl _ | refine And.intro ?_ ?_)), by (repeat' (first | exact rfl | exact trivial | exact sim_refl _ | refine And.intro ?_ ?_)), by (repeat' (first | exact rfl | exact trivial | exact sim_refl _ | refine And.intro ?_ ?_)), by (repeat' (first | exact rfl | exact trivial | exact sim_refl _ | refine And.intro ?_ ?_)), ⟨rfl, by rw [h4]; omega⟩, trivial⟩); (case q1 => exact h1); (case q2 => omega))
    · have h2 : ¬ (i : Int) < (g.length : Int) := by omega
      refine sxb hX [.r 15] [] 4000 rfl (by (simp [conjP])) ?_
      refine sxb hX [.r 15] [.F] 4000 rfl (by (simp [conjP, addOP, h2])) ?_
      (refine ss_sub hX (T' := fT_nn) (H' := fH_nn n o) [0, 1] rfl rfl rfl rfl (by (repeat' (first | exact rfl | exact trivial | exact sim_refl _ | refine And.intro ?_ ?_))) (by (repeat' (first | exact rfl | exact trivial | exact sim_refl _ | refine And.intro ?_ ?_))) (by (repeat' (first | exact rfl | exact trivial | exact sim_refl _ | refine And.intro ?_ ?_))) (by (repeat' (first | exact rfl | exact trivial | exact sim_refl _ | refine And.intro ?_ ?_))) ?_; exact tail)
  have hrl := rng_len (cMod 6 l2 + cMod 6 l3).toNat
  have htn : (((cMod 6 l2 + cMod 6 l3).toNat : Nat) : Int) = cMod 6 l2 + cMod 6 l3 := by omega
  refine sxb hX [.r 10] [] 4000 rfl (by (simp [conjP, getH, HE.so, hr, hla, sel0, sel1, e0, e1, o0, hF, hMo])) ?_
  refine sxb hX [.r 10] [.F] 4000 rfl (by (simp [conjP])) ?_
  refine sxb hX [.r 10] [.F] 4000 rfl (by (simp [conjP, addOP, hbl, hrl, htn])) ?_
  (refine ss_sub hX (T' := [(5, .tt), (8, .nilslice), (9, .niliface), (10, .nilslice), (11, .niliface), (12, .nilslice), (13, .niliface), (14, .sbuf 2 1 0 (rngL (cMod 6 l2 + cMod 6 l3).toNat).length)]) (H' := (fH_nn n o ++ [IB (rngL (cMod 6 l2 + cMod 6 l3).toNat)])) [0, 1, 7] rfl rfl rfl rfl (by (repeat' (first | exact rfl | exact trivial | exact sim_refl _ | refine And.intro ?_ ?_))) (by (repeat' (first | exact rfl | exact trivial | exact sim_refl _ | refine And.intro ?_ ?_))) (by (repeat' (first | exact rfl | exact trivial | exact sim_refl _ | refine And.intro ?_ ?_))) (by (repeat' (first | exact rfl | exact trivial | exact sim_refl _ | refine And.intro ?_ ?_))) ?_; exact t1)

set_option maxHeartbeats 16000000 in
theorem fe_ln_n (l0 l1 l2 l3 : Int) {n cap : Nat} {o : Nat → SetP} {l : List Int} {z : List Int} {Wl : List Int} (hla : laOb (cAnd 1 l0) 4 (cAnd 1 l1) 4 (cMod 6 l2) 6 (cMod 6 l3) (mkA (cAnd 1 l0) 4 (cAnd 1 l1) 2 4 (cMod 6 l2) 6 (cMod 6 l3) 2).W (setRow o) n Wl) (hU : InU Wl) (hlen : (Wl.length : Int) = sizeV (cAnd 1 l0) 4 (cAnd 1 l1) 4 (cMod 6 l2) 6 (cMod 6 l3)) (e0 : hsR (cAnd 1 l0) 4 (cAnd 1 l1) 2 4 (cMod 6 l2) 6 (cMod 6 l3) 2 0 Wl.length Wl = .ok (some l)) (e1 : hsR (cAnd 1 l0) 4 (cAnd 1 l1) 2 4 (cMod 6 l2) 6 (cMod 6 l3) 2 1 Wl.length Wl = .ok none) (eF : frR (.ok (some l)) (.ok none) = .ok (some z)) (hz1 : z.length = l.length + ([] : List Int).length) (hz2 : z.Pairwise (· < ·)) (hz3 : ∀ x ∈ z, x ∈ l ∨ x ∈ ([] : List Int)) (hz4 : z.length ≤ 24) (hM : cMod 6 l2 + cMod 6 l3 = 0) :
    Gives Tryd.prog 6 [L4 l0 l1 l2 l3, .slice 0 0 n cap] [stO n o, pinE RTV] (Is .tt [stO n o, pinE RTV]) := by
  skip
  have hr := cfg_rightH l0 l1 l2 l3
  have hsz2 := size_bd hr
  have hm2 := cMod6 l2
  have hm3 := cMod6 l3
  have o0 : lsOb (.ok (some l)) Wl.length Wl.length Wl := .inl ⟨rfl, rfl, hU⟩
  have o1 : lsOb (.ok none) Wl.length Wl.length Wl := .inl ⟨rfl, rfl, hU⟩
  have hF : fOb (cAnd 1 l0) 4 (cAnd 1 l1) 2 4 (cMod 6 l2) 6 (cMod 6 l3) 2 (.ok (some z)) Wl.length Wl.length Wl := .inl ⟨hr, rfl, rfl, hU, hlen, by omega, by rw [e0, e1]; exact eF⟩
  have hMk := mk_free hr
  rw [if_pos hM] at hMk
  have hMo : fOb (cAnd 1 l0) 4 (cAnd 1 l1) 2 4 (cMod 6 l2) 6 (cMod 6 l3) 2 (.ok none) (mkA (cAnd 1 l0) 4 (cAnd 1 l1) 2 4 (cMod 6 l2) 6 (cMod 6 l3) 2).W.length (mkA (cAnd 1 l0) 4 (cAnd 1 l1) 2 4 (cMod 6 l2) 6 (cMod 6 l3) 2).W.length (mkA (cAnd 1 l0) 4 (cAnd 1 l1) 2 4 (cMod 6 l2) 6 (cMod 6 l3) 2).W := .inl ⟨hr, rfl, rfl, mkA_in hr, by rw [mkA_len]; omega, by omega, hMk⟩
  have hbl : IntKind.i64.wrap (cMod 6 l2 + cMod 6 l3) = cMod 6 l2 + cMod 6 l3 := wi64 (by omega) (by omega)
  have hbl0 : IntKind.i64.wrap (cMod 6 l2 + cMod 6 l3) = 0 := by rw [hbl, hM]
  have hX := hXHh Wl (.ok (some l)) (.ok none) (.ok (some z)) (.ok none) 4
  refine gives_x hX (fn := Tryd.f6) rfl rfl rfl rfl fun ρ w => ?_
  have tail := ft_ln n o (Wl := Wl) (l := l) (z := z) (rM := .ok none) (h0 := 4) hz1 hz2 hz3 hz4 (ρ := ρ) (w := w)
  have t1 : SS (hXHh Wl (.ok (some l)) (.ok none) (.ok (some z)) (.ok none) 4) (At ρ w) (Is .tt [stO n o, pinE RTV]) ⟨[], [], Tryd.f6, Tryd.f6.ntmps, [stO n o, pinE RTV], contF Tryd.f6 10 [], [(5, .tt), (8, .sbuf 2 1 0 l.length), (9, .niliface), (10, .nilslice), (11, .niliface), (12, .sbuf 3 1 0 z.length), (13, .niliface), (14, .nilslice)], fH_ln n o l z⟩ := by
    refine sxb hX [.l] [] 4000 rfl trivial ?_
    refine ss_sub hX (T' := [(5, .tt), (8, .sbuf 2 1 0 l.length), (9, .niliface), (10, .nilslice), (11, .niliface), (12, .sbuf 3 1 0 z.length), (13, .niliface), (14, .nilslice), (16, .int .i64 0)]) (H' := fH_ln n o l z) [0, 1, 2, 3] rfl rfl rfl rfl (by (repeat' (first | exact rfl | exact trivial | exact sim_refl _ | refine And.intro ?_ ?_))) (by (repeat' (first | exact rfl | exact trivial | exact sim_refl _ | refine And.intro ?_ ?_))) (by (repeat' (first | exact rfl | exact trivial | exact sim_refl _ | refine And.intro ?_ ?_))) (by (repeat' (first | exact rfl | exact trivial | exact sim_refl _ | refine And.intro ?_ ?_))) ?_
    refine ss_loop hX (fun _ : Unit => [(5, .tt), (8, .sbuf 2 1 0 l.length), (9, .niliface), (10, .nilslice), (11, .niliface), (12, .sbuf 3 1 0 z.length), (13, .niliface), (14, .nilslice), (16, .int .i64 0)]) (fun _ => fH_ln n o l z) (fun _ => True) (fun _ => 0) () trivial ?_
    intro _ _ I2 _
    refine sxb hX [.r 15] [] 4000 rfl (by (simp [conjP])) ?_
    refine sxb hX [.r 15] [.F] 4000 rfl (by (simp [conjP, addOP])) ?_
    (refine ss_sub hX (T' := fT_ln l z) (H' := fH_ln n o l z) [0, 1, 2, 3] rfl rfl rfl rfl (by (repeat' (first | exact rfl | exact trivial | exact sim_refl _ | refine And.intro ?_ ?_))) (by (repeat' (first | exact rfl | exact trivial | exact sim_refl _ | refine And.intro ?_ ?_))) (by (repeat' (first | exact rfl | exact trivial | exact sim_refl _ | refine And.intro ?_ ?_))) (by (repeat' (first | exact rfl | exact trivial | exact sim_refl _ | refine And.intro ?_ ?_))) ?_; exact tail)
  refine sxb hX [.r 10] [] 4000 rfl (by (simp [conjP, getH, HE.so, hr, hla, sel0, sel1, e0, e1, o0, o1, hF, hMo])) ?_
  refine sxb hX [.r 10] [.F] 4000 rfl (by (simp [conjP])) ?_
  refine sxb hX [.r 10] [.F] 4000 rfl (by (simp [conjP, addOP, hbl0])) ?_
  (refine ss_sub hX (T' := [(5, .tt), (8, .sbuf 2 1 0 l.length), (9, .niliface), (10, .nilslice), (11, .niliface), (12, .sbuf 3 1 0 z.length), (13, .niliface), (14, .nilslice)]) (H' := fH_ln n o l z) [0, 1, 5, 6] rfl rfl rfl rfl (by (repeat' (first | exact rfl | exact trivial | exact sim_refl _ | refine And.intro ?_ ?_))) (by (repeat' (first | exact rfl | exact trivial | exact sim_refl _ | refine And.intro ?_ ?_))) (by (repeat' (first | exact rfl | exact trivial | exact sim_refl _ | refine And.intro ?_ ?_))) (by (repeat' (first | exact rfl | exact trivial | exact sim_refl _ | refine And.intro ?_ ?_))) ?_; exact t1)

set_option maxHeartbeats 16000000 in
theorem fe_ln_g (l0 l1 l2 l3 : Int) {n cap : Nat} {o : Nat → SetP} {l : List Int} {z : List Int} {Wl : List Int} (hla : laOb (cAnd 1 l0) 4 (cAnd 1 l1) 4 (cMod 6 l2) 6 (cMod 6 l3) (mkA (cAnd 1 l0) 4 (cAnd 1 l1) 2 4 (cMod 6 l2) 6 (cMod 6 l3) 2).W (setRow o) n Wl) (hU : InU Wl) (hlen : (Wl.length : Int) = sizeV (cAnd 1 l0) 4 (cAnd 1 l1) 4 (cMod 6 l2) 6 (cMod 6 l3)) (e0 : hsR (cAnd 1 l0) 4 (cAnd 1 l1) 2 4 (cMod 6 l2) 6 (cMod 6 l3) 2 0 Wl.length Wl = .ok (some l)) (e1 : hsR (cAnd 1 l0) 4 (cAnd 1 l1) 2 4 (cMod 6 l2) 6 (cMod 6 l3) 2 1 Wl.length Wl = .ok none) (eF : frR (.ok (some l)) (.ok none) = .ok (some z)) (hz1 : z.length = l.length + ([] : List Int).length) (hz2 : z.Pairwise (· < ·)) (hz3 : ∀ x ∈ z, x ∈ l ∨ x ∈ ([] : List Int)) (hz4 : z.length ≤ 24) (hM : ¬ cMod 6 l2 + cMod 6 l3 = 0) :
    Gives Tryd.prog 6 [L4 l0 l1 l2 l3, .slice 0 0 n cap] [stO n o, pinE RTV] (Is .tt [stO n o, pinE RTV]) := by
  skip
  have hr := cfg_rightH l0 l1 l2 l3
  have hsz2 := size_bd hr
  have hm2 := cMod6 l2
  have hm3 := cMod6 l3
  have o0 : lsOb (.ok (some l)) Wl.length Wl.length Wl := .inl ⟨rfl, rfl, hU⟩
  have o1 : lsOb (.ok none) Wl.length Wl.length Wl := .inl ⟨rfl, rfl, hU⟩
  have hF : fOb (cAnd 1 l0) 4 (cAnd 1 l1) 2 4 (cMod 6 l2) 6 (cMod 6 l3) 2 (.ok (some z)) Wl.length Wl.length Wl := .inl ⟨hr, rfl, rfl, hU, hlen, by omega, by rw [e0, e1]; exact eF⟩
  have hMk := mk_free hr
  rw [if_neg hM] at hMk
  have hMo : fOb (cAnd 1 l0) 4 (cAnd 1 l1) 2 4 (cMod 6 l2) 6 (cMod 6 l3) 2 (.ok (some (rngL (cMod 6 l2 + cMod 6 l3).toNat))) (mkA (cAnd 1 l0) 4 (cAnd 1 l1) 2 4 (cMod 6 l2) 6 (cMod 6 l3) 2).W.length (mkA (cAnd 1 l0) 4 (cAnd 1 l1) 2 4 (cMod 6 l2) 6 (cMod 6 l3) 2).W.length (mkA (cAnd 1 l0) 4 (cAnd 1 l1) 2 4 (cMod 6 l2) 6 (cMod 6 l3) 2).W := .inl ⟨hr, rfl, rfl, mkA_in hr, by rw [mkA_len]; omega, by omega, hMk⟩
  have hbl : IntKind.i64.wrap (cMod 6 l2 + cMod 6 l3) = cMod 6 l2 + cMod 6 l3 := wi64 (by omega) (by omega)
  skip
  have hX := hXHh Wl (.ok (some l)) (.ok none) (.ok (some z)) (.ok (some (rngL (cMod 6 l2 + cMod 6 l3).toNat))) 4
  refine gives_x hX (fn := Tryd.f6) rfl rfl rfl rfl fun ρ w => ?_
  have tail := ft_ln n o (Wl := Wl) (l := l) (z := z) (rM := .ok (some (rngL (cMod 6 l2 + cMod 6 l3).toNat))) (h0 := 4) hz1 hz2 hz3 hz4 (ρ := ρ) (w := w)
  have t1 : SS (hXHh Wl (.ok (some l)) (.ok none) (.ok (some z)) (.ok (some (rngL (cMod 6 l2 + cMod 6 l3).toNat))) 4) (At ρ w) (Is .tt [stO n o, pinE RTV]) ⟨[], [], Tryd.f6, Tryd.f6.ntmps, [stO n o, pinE RTV], contF Tryd.f6 10 [], [(5, .tt), (8, .sbuf 2 1 0 l.length), (9, .niliface), (10, .nilslice), (11, .niliface), (12, .sbuf 3 1 0 z.length), (13, .niliface), (14, .sbuf 4 1 0 (rngL (cMod 6 l2 + cMod 6 l3).toNat).length)], (fH_ln n o l z ++ [IB (rngL (cMod 6 l2 + cMod 6 l3).toNat)])⟩ := by
    refine sxb hX [.l] [] 4000 rfl trivial ?_
    have hrl := rng_len (cMod 6 l2 + cMod 6 l3).toNat
    have htn : (((cMod 6 l2 + cMod 6 l3).toNat : Nat) : Int) = cMod 6 l2 + cMod 6 l3 := by omega
    have hrg := fun (i : Nat) (h : i < (cMod 6 l2 + cMod 6 l3).toNat) => rng_get h
    generalize rngL (cMod 6 l2 + cMod 6 l3).toNat = g at *
    refine ss_sub hX (T' := [(5, .tt), (8, .sbuf 2 1 0 l.length), (9, .niliface), (10, .nilslice), (11, .niliface), (12, .sbuf 3 1 0 z.length), (13, .niliface), (14, .sbuf 4 1 0 g.length), (16, .int .i64 ((0 : Nat) : Int))]) (H' := (fH_ln n o l z ++ [IB (g)])) [0, 1, 2, 3, 4] rfl rfl rfl rfl (by (repeat' (first | exact rfl | exact trivial | exact sim_refl _ | refine And.intro ?_ ?_))) (by (repeat' (first | exact rfl | exact trivial | exact sim_refl _ | refine And.intro ?_ ?_))) (by (repeat' (first | exact rfl | exact trivial | exact sim_refl _ | refine And.intro ?_ ?_))) (by (repeat' (first | exact rfl | exact trivial | exact sim_refl _ | refine And.intro ?_ ?_))) ?_
    refine ss_loop hX (fun i : Nat => [(5, .tt), (8, .sbuf 2 1 0 l.length), (9, .niliface), (10, .nilslice), (11, .niliface), (12, .sbuf 3 1 0 z.length), (13, .niliface), (14, .sbuf 4 1 0 g.length), (16, .int .i64 (i : Int))]) (fun _ => (fH_ln n o l z ++ [IB (g)])) (fun i => i ≤ g.length) (fun i => g.length - i) 0 (Nat.zero_le _) ?_
    intro i hi0 I2 back
    have hi : i ≤ g.length := hi0
    by_cases h1 : i < g.length
    · have h2 : (i : Int) < (g.length : Int) := by omega
      have h3 := hrg i (by omega)
      have h4 : IntKind.i64.wrap ((i : Int) + 1) = (i : Int) + 1 := wi64 (by omega) (by omega)
      refine sx hX [] 4000 rfl (by (simp [conjP])) ?_
      refine sx hX [.T] 4000 rfl (by (simp [conjP, h1, h2, cellOff])) ?_
      refine sx hX [.F] 4000 rfl (by (simp [-List.getD_eq_getElem?_getD, -List.length_eq_zero_iff, conjP, addOP, h3, h4, cellOff])) ?_
      (refine back (i + 1) ?q1 ?q2 _ _ _ (sub_of [0, 1, 2, 3, 4] rfl rfl rfl rfl ?tt (by (repeat' (first | exact rfl | exact trivial | exact sim_refl _ | refine And.intro ?_ ?_))) (by (repeat' (first | exact rfl | exact trivial | exact sim_refl _ | refine And.intro ?_ ?_))) (by (repeat' (first | exact rfl | exact trivial | exact sim_refl _ | refine And.intro ?_ ?_)))); (case tt => refine ⟨by (repeat' (first | exact rfl | exact trivial | exact sim_refl _ | refine And.intro ?_ ?_)), by (repeat' (first | exact rfl | exact trivial | exact sim_refl _ | refine And.intro ?_ ?_)), by (repeat' (first | exact rfl | exact trivial | exact sim_refl _ | refine And.intro ?_ ?_)), by (repeat' (first | exact rfl | exact trivial | exact sim_refl _ | refine And.intro ?_ ?_)), by (repeat' (first | exact rfl | exact trivial | exact sim_refl _ | refine And.intro ?_ ?_)), by (repeat' (first | exact rfl | exact trivial | exact sim_refl _ | refine And.intro ?_ ?_)), by (repeat' (first | exact rfl | exact trivial | exact sim_refl _ | refine And.intro ?_ ?_)), by (repeat' (first | exact rfl | exact trivial | exact sim_refl _ | refine And.intro ?_ ?_)), ⟨rfl, by rw [h4]; omega⟩, trivial⟩); (case q1 => exact h1); (case q2 => omega))
    · have h2 : ¬ (i : Int) < (g.length : Int) := by omega
      refine sxb hX [.r 15] [] 4000 rfl (by (simp [conjP])) ?_
      refine sxb hX [.r 15] [.F] 4000 rfl (by (simp [conjP, addOP, h2])) ?_
      (refine ss_sub hX (T' := fT_ln l z) (H' := fH_ln n o l z) [0, 1, 2, 3] rfl rfl rfl rfl (by (repeat' (first | exact rfl | exact trivial | exact sim_refl _ | refine And.intro ?_ ?_))) (by (repeat' (first | exact rfl | exact trivial | exact sim_refl _ | refine And.intro ?_ ?_))) (by (repeat' (first | exact rfl | exact trivial | exact sim_refl _ | refine And.intro ?_ ?_))) (by (repeat' (first | exact rfl | exact trivial | exact sim_refl _ | refine And.intro ?_ ?_))) ?_; exact tail)
  have hrl := rng_len (cMod 6 l2 + cMod 6 l3).toNat
  have htn : (((cMod 6 l2 + cMod 6 l3).toNat : Nat) : Int) = cMod 6 l2 + cMod 6 l3 := by omega
  refine sxb hX [.r 10] [] 4000 rfl (by (simp [conjP, getH, HE.so, hr, hla, sel0, sel1, e0, e1, o0, o1, hF, hMo])) ?_
  refine sxb hX [.r 10] [.F] 4000 rfl (by (simp [conjP])) ?_
  refine sxb hX [.r 10] [.F] 4000 rfl (by (simp [conjP, addOP, hbl, hrl, htn])) ?_
  (refine ss_sub hX (T' := [(5, .tt), (8, .sbuf 2 1 0 l.length), (9, .niliface), (10, .nilslice), (11, .niliface), (12, .sbuf 3 1 0 z.length), (13, .niliface), (14, .sbuf 4 1 0 (rngL (cMod 6 l2 + cMod 6 l3).toNat).length)]) (H' := (fH_ln n o l z ++ [IB (rngL (cMod 6 l2 + cMod 6 l3).toNat)])) [0, 1, 5, 6, 9] rfl rfl rfl rfl (by (repeat' (first | exact rfl | exact trivial | exact sim_refl _ | refine And.intro ?_ ?_))) (by (repeat' (first | exact rfl | exact trivial | exact sim_refl _ | refine And.intro ?_ ?_))) (by (repeat' (first | exact rfl | exact trivial | exact sim_refl _ | refine And.intro ?_ ?_))) (by (repeat' (first | exact rfl | exact trivial | exact sim_refl _ | refine And.intro ?_ ?_))) ?_; exact t1)

set_option maxHeartbeats 16000000 in
theorem fe_nm_n (l0 l1 l2 l3 : Int) {n cap : Nat} {o : Nat → SetP} {m : List Int} {z : List Int} {Wl : List Int} (hla : laOb (cAnd 1 l0) 4 (cAnd 1 l1) 4 (cMod 6 l2) 6 (cMod 6 l3) (mkA (cAnd 1 l0) 4 (cAnd 1 l1) 2 4 (cMod 6 l2) 6 (cMod 6 l3) 2).W (setRow o) n Wl) (hU : InU Wl) (hlen : (Wl.length : Int) = sizeV (cAnd 1 l0) 4 (cAnd 1 l1) 4 (cMod 6 l2) 6 (cMod 6 l3)) (e0 : hsR (cAnd 1 l0) 4 (cAnd 1 l1) 2 4 (cMod 6 l2) 6 (cMod 6 l3) 2 0 Wl.length Wl = .ok none) (e1 : hsR (cAnd 1 l0) 4 (cAnd 1 l1) 2 4 (cMod 6 l2) 6 (cMod 6 l3) 2 1 Wl.length Wl = .ok (some m)) (eF : frR (.ok none) (.ok (some m)) = .ok (some z)) (hz1 : z.length = ([] : List Int).length + m.length) (hz2 : z.Pairwise (· < ·)) (hz3 : ∀ x ∈ z, x ∈ ([] : List Int) ∨ x ∈ m) (hz4 : z.length ≤ 24) (hM : cMod 6 l2 + cMod 6 l3 = 0) :
    Gives Tryd.prog 6 [L4 l0 l1 l2 l3, .slice 0 0 n cap] [stO n o, pinE RTV] (Is .tt [stO n o, pinE RTV]) := by
  skip
  have hr := cfg_rightH l0 l1 l2 l3
  have hsz2 := size_bd hr
  have hm2 := cMod6 l2
  have hm3 := cMod6 l3
  have o0 : lsOb (.ok none) Wl.length Wl.length Wl := .inl ⟨rfl, rfl, hU⟩
  have o1 : lsOb (.ok (some m)) Wl.length Wl.length Wl := .inl ⟨rfl, rfl, hU⟩
  have hF : fOb (cAnd 1 l0) 4 (cAnd 1 l1) 2 4 (cMod 6 l2) 6 (cMod 6 l3) 2 (.ok (some z)) Wl.length Wl.length Wl := .inl ⟨hr, rfl, rfl, hU, hlen, by omega, by rw [e0, e1]; exact eF⟩
  have hMk := mk_free hr
  rw [if_pos hM] at hMk
  have hMo : fOb (cAnd 1 l0) 4 (cAnd 1 l1) 2 4 (cMod 6 l2) 6 (cMod 6 l3) 2 (.ok none) (mkA (cAnd 1 l0) 4 (cAnd 1 l1) 2 4 (cMod 6 l2) 6 (cMod 6 l3) 2).W.length (mkA (cAnd 1 l0) 4 (cAnd 1 l1) 2 4 (cMod 6 l2) 6 (cMod 6 l3) 2).W.length (mkA (cAnd 1 l0) 4 (cAnd 1 l1) 2 4 (cMod 6 l2) 6 (cMod 6 l3) 2).W := .inl ⟨hr, rfl, rfl, mkA_in hr, by rw [mkA_len]; omega, by omega, hMk⟩
  have hbl : IntKind.i64.wrap (cMod 6 l2 + cMod 6 l3) = cMod 6 l2 + cMod 6 l3 := wi64 (by omega) (by omega)
  have hbl0 : IntKind.i64.wrap (cMod 6 l2 + cMod 6 l3) = 0 := by rw [hbl, hM]
  have hX := hXHh Wl (.ok none) (.ok (some m)) (.ok (some z)) (.ok none) 4
  refine gives_x hX (fn := Tryd.f6) rfl rfl rfl rfl fun ρ w => ?_
  have tail := ft_nm n o (Wl := Wl) (m := m) (z := z) (rM := .ok none) (h0 := 4) hz1 hz2 hz3 hz4 (ρ := ρ) (w := w)
  have t1 : SS (hXHh Wl (.ok none) (.ok (some m)) (.ok (some z)) (.ok none) 4) (At ρ w) (Is .tt [stO n o, pinE RTV]) ⟨[], [], Tryd.f6, Tryd.f6.ntmps, [stO n o, pinE RTV], contF Tryd.f6 10 [], [(5, .tt), (8, .nilslice), (9, .niliface), (10, .sbuf 2 1 0 m.length), (11, .niliface), (12, .sbuf 3 1 0 z.length), (13, .niliface), (14, .nilslice)], fH_nm n o m z⟩ := by
    refine sxb hX [.l] [] 4000 rfl trivial ?_
    refine ss_sub hX (T' := [(5, .tt), (8, .nilslice), (9, .niliface), (10, .sbuf 2 1 0 m.length), (11, .niliface), (12, .sbuf 3 1 0 z.length), (13, .niliface), (14, .nilslice), (16, .int .i64 0)]) (H' := fH_nm n o m z) [0, 1, 2, 3] rfl rfl rfl rfl (by (repeat' (first | exact rfl | exact trivial | exact sim_refl _ | refine And.intro ?_ ?_))) (by (repeat' (first | exact rfl | exact trivial | exact sim_refl _ | refine And.intro ?_ ?_))) (by (repeat' (first | exact rfl | exact trivial | exact sim_refl _ | refine And.intro ?_ ?_))) (by (repeat' (first | exact rfl | exact trivial | exact sim_refl _ | refine And.intro ?_ ?_))) ?_
    refine ss_loop hX (fun _ : Unit => [(5, .tt), (8, .nilslice), (9, .niliface), (10, .sbuf 2 1 0 m.length), (11, .niliface), (12, .sbuf 3 1 0 z.length), (13, .niliface), (14, .nilslice), (16, .int .i64 0)]) (fun _ => fH_nm n o m z) (fun _ => True) (fun _ => 0) () trivial ?_
    intro _ _ I2 _
    refine sxb hX [.r 15] [] 4000 rfl (by (simp [conjP])) ?_
    refine sxb hX [.r 15] [.F] 4000 rfl (by (simp [conjP, addOP])) ?_
    (refine ss_sub hX (T' := fT_nm m z) (H' := fH_nm n o m z) [0, 1, 2, 3] rfl rfl rfl rfl (by (repeat' (first | exact rfl | exact trivial | exact sim_refl _ | refine And.intro ?_ ?_))) (by (repeat' (first | exact rfl | exact trivial | exact sim_refl _ | refine And.intro ?_ ?_))) (by (repeat' (first | exact rfl | exact trivial | exact sim_refl _ | refine And.intro ?_ ?_))) (by (repeat' (first | exact rfl | exact trivial | exact sim_refl _ | refine And.intro ?_ ?_))) ?_; exact tail)
  refine sxb hX [.r 10] [] 4000 rfl (by (simp [conjP, getH, HE.so, hr, hla, sel0, sel1, e0, e1, o0, o1, hF, hMo])) ?_
  refine sxb hX [.r 10] [.F] 4000 rfl (by (simp [conjP])) ?_
  refine sxb hX [.r 10] [.F] 4000 rfl (by (simp [conjP, addOP, hbl0])) ?_
  (refine ss_sub hX (T' := [(5, .tt), (8, .nilslice), (9, .niliface), (10, .sbuf 2 1 0 m.length), (11, .niliface), (12, .sbuf 3 1 0 z.length), (13, .niliface), (14, .nilslice)]) (H' := fH_nm n o m z) [0, 1, 5, 6] rfl rfl rfl rfl (by (repeat' (first | exact rfl | exact trivial | exact sim_refl _ | refine And.intro ?_ ?_))) (by (repeat' (first | exact rfl | exact trivial | exact sim_refl _ | refine And.intro ?_ ?_))) (by (repeat' (first | exact rfl | exact trivial | exact sim_refl _ | refine And.intro ?_ ?_))) (by (repeat' (first | exact rfl | exact trivial | exact sim_refl _ | refine And.intro ?_ ?_))) ?_; exact t1)

set_option maxHeartbeats 16000000 in
theorem fe_nm_g (l0 l1 l2 l3 : Int) {n cap : Nat} {o : Nat → SetP} {m : List Int} {z : List Int} {Wl : List Int} (hla : laOb (cAnd 1 l0) 4 (cAnd 1 l1) 4 (cMod 6 l2) 6 (cMod 6 l3) (mkA (cAnd 1 l0) 4 (cAnd 1 l1) 2 4 (cMod 6 l2) 6 (cMod 6 l3) 2).W (setRow o) n Wl) (hU : InU Wl) (hlen : (Wl.length : Int) = sizeV (cAnd 1 l0) 4 (cAnd 1 l1) 4 (cMod 6 l2) 6 (cMod 6 l3)) (e0 : hsR (cAnd 1 l0) 4 (cAnd 1 l1) 2 4 (cMod 6 l2) 6 (cMod 6 l3) 2 0 Wl.length Wl = .ok none) (e1 : hsR (cAnd 1 l0) 4 (cAnd 1 l1) 2 4 (cMod 6 l2) 6 (cMod 6 l3) 2 1 Wl.length Wl = .ok (some m)) (eF : frR (.ok none) (.ok (some m)) = .ok (some z)) (hz1 : z.length = ([] : List Int).length + m.length) (hz2 : z.Pairwise (· < ·)) (hz3 : ∀ x ∈ z, x ∈ ([] : List Int) ∨ x ∈ m) (hz4 : z.length ≤ 24) (hM : ¬ cMod 6 l2 + cMod 6 l3 = 0) :
    Gives Tryd.prog 6 [L4 l0 l1 l2 l3, .slice 0 0 n cap] [stO n o, pinE RTV] (Is .tt [stO n o, pinE RTV]) := by
  skip
  have hr := cfg_rightH l0 l1 l2 l3
  have hsz2 := size_bd hr
  have hm2 := cMod6 l2
  have hm3 := cMod6 l3
  have o0 : lsOb (.ok none) Wl.length Wl.length Wl := .inl ⟨rfl, rfl, hU⟩
  have o1 : lsOb (.ok (some m)) Wl.length Wl.length Wl := .inl ⟨rfl, rfl, hU⟩
  have hF : fOb (cAnd 1 l0) 4 (cAnd 1 l1) 2 4 (cMod 6 l2) 6 (cMod 6 l3) 2 (.ok (some z)) Wl.length Wl.length Wl := .inl ⟨hr, rfl, rfl, hU, hlen, by omega, by rw [e0, e1]; exact eF⟩
  have hMk := mk_free hr
  rw [if_neg hM] at hMk
  have hMo : fOb (cAnd 1 l0) 4 (cAnd 1 l1) 2 4 (cMod 6 l2) 6 (cMod 6 l3) 2 (.ok (some (rngL (cMod 6 l2 + cMod 6 l3).toNat))) (mkA (cAnd 1 l0) 4 (cAnd 1 l1) 2 4 (cMod 6 l2) 6 (cMod 6 l3) 2).W.length (mkA (cAnd 1 l0) 4 (cAnd 1 l1) 2 4 (cMod 6 l2) 6 (cMod 6 l3) 2).W.length (mkA (cAnd 1 l0) 4 (cAnd 1 l1) 2 4 (cMod 6 l2) 6 (cMod 6 l3) 2).W := .inl ⟨hr, rfl, rfl, mkA_in hr, by rw [mkA_len]; omega, by omega, hMk⟩
  have hbl : IntKind.i64.wrap (cMod 6 l2 + cMod 6 l3) = cMod 6 l2 + cMod 6 l3 := wi64 (by omega) (by omega)
  skip
  have hX := hXHh Wl (.ok none) (.ok (some m)) (.ok (some z)) (.ok (some (rngL (cMod 6 l2 + cMod 6 l3).toNat))) 4
  refine gives_x hX (fn := Tryd.f6) rfl rfl rfl rfl fun ρ w => ?_
  have tail := ft_nm n o (Wl := Wl) (m := m) (z := z) (rM := .ok (some (rngL (cMod 6 l2 + cMod 6 l3).toNat))) (h0 := 4) hz1 hz2 hz3 hz4 (ρ := ρ) (w := w)
  have t1 : SS (hXHh Wl (.ok none) (.ok (some m)) (.ok (some z)) (.ok (some (rngL (cMod 6 l2 + cMod 6 l3).toNat))) 4) (At ρ w) (Is .tt [stO n o, pinE RTV]) ⟨[], [], Tryd.f6, Tryd.f6.ntmps, [stO n o, pinE RTV], contF Tryd.f6 10 [], [(5, .tt), (8, .nilslice), (9, .niliface), (10, .sbuf 2 1 0 m.length), (11, .niliface), (12, .sbuf 3 1 0 z.length), (13, .niliface), (14, .sbuf 4 1 0 (rngL (cMod 6 l2 + cMod 6 l3).toNat).length)], (fH_nm n o m z ++ [IB (rngL (cMod 6 l2 + cMod 6 l3).toNat)])⟩ := by
    refine sxb hX [.l] [] 4000 rfl trivial ?_
    have hrl := rng_len (cMod 6 l2 + cMod 6 l3).toNat
    have htn : (((cMod 6 l2 + cMod 6 l3).toNat : Nat) : Int) = cMod 6 l2 + cMod 6 l3 := by omega
    have hrg := fun (i : Nat) (h : i < (cMod 6 l2 + cMod 6 l3).toNat) => rng_get h
    generalize rngL (cMod 6 l2 + cMod 6 l3).toNat = g at *
    refine ss_sub hX (T' := [(5, .tt), (8, .nilslice), (9, .niliface), (10, .sbuf 2 1 0 m.length), (11, .niliface), (12, .sbuf 3 1 0 z.length), (13, .niliface), (14, .sbuf 4 1 0 g.length), (16, .int .i64 ((0 : Nat) : Int))]) (H' := (fH_nm n o m z ++ [IB (g)])) [0, 1, 2, 3, 4] rfl rfl rfl rfl (by (repeat' (first | exact rfl | exact trivial | exact sim_refl _ | refine And.intro ?_ ?_))) (by (repeat' (first | exact rfl | exact trivial | exact sim_refl _ | refine And.intro ?_ ?_))) (by (repeat' (first | exact rfl | exact trivial | exact sim_refl _ | refine And.intro ?_ ?_))) (by (repeat' (first | exact rfl | exact trivial | exact sim_refl _ | refine And.intro ?_ ?_))) ?_
    refine ss_loop hX (fun i : Nat => [(5, .tt), (8, .nilslice), (9, .niliface), (10, .sbuf 2 1 0 m.length), (11, .niliface), (12, .sbuf 3 1 0 z.length), (13, .niliface), (14, .sbuf 4 1 0 g.length), (16, .int .i64 (i : Int))]) (fun _ => (fH_nm n o m z ++ [IB (g)])) (fun i => i ≤ g.length) (fun i => g.length - i) 0 (Nat.zero_le _) ?_
    intro i hi0 I2 back
    have hi : i ≤ g.length := hi0
    by_cases h1 : i < g.length
    · have h2 : (i : Int) < (g.length : Int) := by omega
      have h3 := hrg i (by omega)
      have h4 : IntKind.i64.wrap ((i : Int) + 1) = (i : Int) + 1 := wi64 (by omega) (by omega)
      refine sx hX [] 4000 rfl (by (simp [conjP])) ?_
      refine sx hX [.T] 4000 rfl (by (simp [conjP, h1, h2, cellOff])) ?_
      refine sx hX [.F] 4000 rfl (by (simp [-List.getD_eq_getElem?_getD, -List.length_eq_zero_iff, conjP, addOP, h3, h4, cellOff])) ?_
      (refine back (i + 1) ?q1 ?q2 _ _ _ (sub_of [0, 1, 2, 3, 4] rfl rfl rfl rfl ?tt (by (repeat' (first | exact rfl | exact trivial | exact sim_refl _ | refine And.intro ?_ ?_))) (by (repeat' (first | exact rfl | exact trivial | exact sim_refl _ | refine And.intro ?_ ?_))) (by (repeat' (first | exact rfl | exact trivial | exact sim_refl _ | refine And.intro ?_ ?_)))); (case tt => refine ⟨by (repeat' (first | exact rfl | exact trivial | exact sim_refl _ | refine And.intro ?_ ?_)), by (repeat' (first | exact rfl | exact trivial | exact sim_refl _ | refine And.intro ?_ ?_)), by (repeat' (first | exact rfl | exact trivial | exact sim_refl _ | refine And.intro ?_ ?_)), by (repeat' (first | exact rfl | exact trivial | exact sim_refl _ | refine And.intro ?_ ?_)), by (repeat' (first | exact rfl | exact trivial | exact sim_refl _ | refine And.intro ?_ ?_)), by (repeat' (first | exact rfl | exact trivial | exact sim_refl _ | refine And.intro ?_ ?_)), by (repeat' (first | exact rfl | exact trivial | exact sim_refl _ | refine And.intro ?_ ?_)), by (repeat' (first | exact rfl | exact trivial | exact sim_refl _ | refine And.intro ?_ ?_)), ⟨rfl, by rw [h4]; omega⟩, trivial⟩); (case q1 => exact h1); (case q2 => omega))
    · have h2 : ¬ (i : Int) < (g.length : Int) := by omega
      refine sxb hX [.r 15] [] 4000 rfl (by (simp [conjP])) ?_
      refine sxb hX [.r 15] [.F] 4000 rfl (by (simp [conjP, addOP, h2])) ?_
      (refine ss_sub hX (T' := fT_nm m z) (H' := fH_nm n o m z) [0, 1, 2, 3] rfl rfl rfl rfl (by (repeat' (first | exact rfl | exact trivial | exact sim_refl _ | refine And.intro ?_ ?_))) (by (repeat' (first | exact rfl | exact trivial | exact sim_refl _ | refine And.intro ?_ ?_))) (by (repeat' (first | exact rfl | exact trivial | exact sim_refl _ | refine And.intro ?_ ?_))) (by (repeat' (first | exact rfl | exact trivial | exact sim_refl _ | refine And.intro ?_ ?_))) ?_; exact tail)
  have hrl := rng_len (cMod 6 l2 + cMod 6 l3).toNat
  have htn : (((cMod 6 l2 + cMod 6 l3).toNat : Nat) : Int) = cMod 6 l2 + cMod 6 l3 := by omega
  refine sxb hX [.r 10] [] 4000 rfl (by (simp [conjP, getH, HE.so, hr, hla, sel0, sel1, e0, e1, o0, o1, hF, hMo])) ?_
  refine sxb hX [.r 10] [.F] 4000 rfl (by (simp [conjP])) ?_
  refine sxb hX [.r 10] [.F] 4000 rfl (by (simp [conjP, addOP, hbl, hrl, htn])) ?_
  (refine ss_sub hX (T' := [(5, .tt), (8, .nilslice), (9, .niliface), (10, .sbuf 2 1 0 m.length), (11, .niliface), (12, .sbuf 3 1 0 z.length), (13, .niliface), (14, .sbuf 4 1 0 (rngL (cMod 6 l2 + cMod 6 l3).toNat).length)]) (H' := (fH_nm n o m z ++ [IB (rngL (cMod 6 l2 + cMod 6 l3).toNat)])) [0, 1, 5, 6, 9] rfl rfl rfl rfl (by (repeat' (first | exact rfl | exact trivial | exact sim_refl _ | refine And.intro ?_ ?_))) (by (repeat' (first | exact rfl | exact trivial | exact sim_refl _ | refine And.intro ?_ ?_))) (by (repeat' (first | exact rfl | exact trivial | exact sim_refl _ | refine And.intro ?_ ?_))) (by (repeat' (first | exact rfl | exact trivial | exact sim_refl _ | refine And.intro ?_ ?_))) ?_; exact t1)

set_option maxHeartbeats 16000000 in
theorem fe_lm_n (l0 l1 l2 l3 : Int) {n cap : Nat} {o : Nat → SetP} {l : List Int} {m : List Int} {z : List Int} {Wl : List Int} (hla : laOb (cAnd 1 l0) 4 (cAnd 1 l1) 4 (cMod 6 l2) 6 (cMod 6 l3) (mkA (cAnd 1 l0) 4 (cAnd 1 l1) 2 4 (cMod 6 l2) 6 (cMod 6 l3) 2).W (setRow o) n Wl) (hU : InU Wl) (hlen : (Wl.length : Int) = sizeV (cAnd 1 l0) 4 (cAnd 1 l1) 4 (cMod 6 l2) 6 (cMod 6 l3)) (e0 : hsR (cAnd 1 l0) 4 (cAnd 1 l1) 2 4 (cMod 6 l2) 6 (cMod 6 l3) 2 0 Wl.length Wl = .ok (some l)) (e1 : hsR (cAnd 1 l0) 4 (cAnd 1 l1) 2 4 (cMod 6 l2) 6 (cMod 6 l3) 2 1 Wl.length Wl = .ok (some m)) (eF : frR (.ok (some l)) (.ok (some m)) = .ok (some z)) (hz1 : z.length = l.length + m.length) (hz2 : z.Pairwise (· < ·)) (hz3 : ∀ x ∈ z, x ∈ l ∨ x ∈ m) (hz4 : z.length ≤ 24) (hM : cMod 6 l2 + cMod 6 l3 = 0) :
    Gives Tryd.prog 6 [L4 l0 l1 l2 l3, .slice 0 0 n cap] [stO n o, pinE RTV] (Is .tt [stO n o, pinE RTV]) := by
  skip
  have hr := cfg_rightH l0 l1 l2 l3
  have hsz2 := size_bd hr
  have hm2 := cMod6 l2
  have hm3 := cMod6 l3
  have o0 : lsOb (.ok (some l)) Wl.length Wl.length Wl := .inl ⟨rfl, rfl, hU⟩
  have o1 : lsOb (.ok (some m)) Wl.length Wl.length Wl := .inl ⟨rfl, rfl, hU⟩
  have hF : fOb (cAnd 1 l0) 4 (cAnd 1 l1) 2 4 (cMod 6 l2) 6 (cMod 6 l3) 2 (.ok (some z)) Wl.length Wl.length Wl := .inl ⟨hr, rfl, rfl, hU, hlen, by omega, by rw [e0, e1]; exact eF⟩
  have hMk := mk_free hr
  rw [if_pos hM] at hMk
  have hMo : fOb (cAnd 1 l0) 4 (cAnd 1 l1) 2 4 (cMod 6 l2) 6 (cMod 6 l3) 2 (.ok none) (mkA (cAnd 1 l0) 4 (cAnd 1 l1) 2 4 (cMod 6 l2) 6 (cMod 6 l3) 2).W.length (mkA (cAnd 1 l0) 4 (cAnd 1 l1) 2 4 (cMod 6 l2) 6 (cMod 6 l3) 2).W.length (mkA (cAnd 1 l0) 4 (cAnd 1 l1) 2 4 (cMod 6 l2) 6 (cMod 6 l3) 2).W := .inl ⟨hr, rfl, rfl, mkA_in hr, by rw [mkA_len]; omega, by omega, hMk⟩
  have hbl : IntKind.i64.wrap (cMod 6 l2 + cMod 6 l3) = cMod 6 l2 + cMod 6 l3 := wi64 (by omega) (by omega)
  have hbl0 : IntKind.i64.wrap (cMod 6 l2 + cMod 6 l3) = 0 := by rw [hbl, hM]
  have hX := hXHh Wl (.ok (some l)) (.ok (some m)) (.ok (some z)) (.ok none) 4
  refine gives_x hX (fn := Tryd.f6) rfl rfl rfl rfl fun ρ w => ?_
  have tail := ft_lm n o (Wl := Wl) (l := l) (m := m) (z := z) (rM := .ok none) (h0 := 4) hz1 hz2 hz3 hz4 (ρ := ρ) (w := w)
  have t1 : SS (hXHh Wl (.ok (some l)) (.ok (some m)) (.ok (some z)) (.ok none) 4) (At ρ w) (Is .tt [stO n o, pinE RTV]) ⟨[], [], Tryd.f6, Tryd.f6.ntmps, [stO n o, pinE RTV], contF Tryd.f6 10 [], [(5, .tt), (8, .sbuf 2 1 0 l.length), (9, .niliface), (10, .sbuf 3 1 0 m.length), (11, .niliface), (12, .sbuf 4 1 0 z.length), (13, .niliface), (14, .nilslice)], fH_lm n o l m z⟩ := by
    refine sxb hX [.l] [] 4000 rfl trivial ?_
    refine ss_sub hX (T' := [(5, .tt), (8, .sbuf 2 1 0 l.length), (9, .niliface), (10, .sbuf 3 1 0 m.length), (11, .niliface), (12, .sbuf 4 1 0 z.length), (13, .niliface), (14, .nilslice), (16, .int .i64 0)]) (H' := fH_lm n o l m z) [0, 1, 2, 3, 4] rfl rfl rfl rfl (by (repeat' (first | exact rfl | exact trivial | exact sim_refl _ | refine And.intro ?_ ?_))) (by (repeat' (first | exact rfl | exact trivial | exact sim_refl _ | refine And.intro ?_ ?_))) (by (repeat' (first | exact rfl | exact trivial | exact sim_refl _ | refine And.intro ?_ ?_))) (by (repeat' (first | exact rfl | exact trivial | exact sim_refl _ | refine And.intro ?_ ?_))) ?_
    refine ss_loop hX (fun _ : Unit => [(5, .tt), (8, .sbuf 2 1 0 l.length), (9, .niliface), (10, .sbuf 3 1 0 m.length), (11, .niliface), (12, .sbuf 4 1 0 z.length), (13, .niliface), (14, .nilslice), (16, .int .i64 0)]) (fun _ => fH_lm n o l m z) (fun _ => True) (fun _ => 0) () trivial ?_
    intro _ _ I2 _
    refine sxb hX [.r 15] [] 4000 rfl (by (simp [conjP])) ?_
    refine sxb hX [.r 15] [.F] 4000 rfl (by (simp [conjP, addOP])) ?_
    (refine ss_sub hX (T' := fT_lm l m z) (H' := fH_lm n o l m z) [0, 1, 2, 3, 4] rfl rfl rfl rfl (by (repeat' (first | exact rfl | exact trivial | exact sim_refl _ | refine And.intro ?_ ?_))) (by (repeat' (first | exact rfl | exact trivial | exact sim_refl _ | refine And.intro ?_ ?_))) (by (repeat' (first | exact rfl | exact trivial | exact sim_refl _ | refine And.intro ?_ ?_))) (by (repeat' (first | exact rfl | exact trivial | exact sim_refl _ | refine And.intro ?_ ?_))) ?_; exact tail)
  refine sxb hX [.r 10] [] 4000 rfl (by (simp [conjP, getH, HE.so, hr, hla, sel0, sel1, e0, e1, o0, o1, hF, hMo])) ?_
  refine sxb hX [.r 10] [.F] 4000 rfl (by (simp [conjP])) ?_
  refine sxb hX [.r 10] [.F] 4000 rfl (by (simp [conjP, addOP, hbl0])) ?_
  (refine ss_sub hX (T' := [(5, .tt), (8, .sbuf 2 1 0 l.length), (9, .niliface), (10, .sbuf 3 1 0 m.length), (11, .niliface), (12, .sbuf 4 1 0 z.length), (13, .niliface), (14, .nilslice)]) (H' := fH_lm n o l m z) [0, 1, 5, 6, 7] rfl rfl rfl rfl (by (repeat' (first | exact rfl | exact trivial | exact sim_refl _ | refine And.intro ?_ ?_))) (by (repeat' (first | exact rfl | exact trivial | exact sim_refl _ | refine And.intro ?_ ?_))) (by (repeat' (first | exact rfl | exact trivial | exact sim_refl _ | refine And.intro ?_ ?_))) (by (repeat' (first | exact rfl | exact trivial | exact sim_refl _ | refine And.intro ?_ ?_))) ?_; exact t1)

set_option maxHeartbeats 16000000 in
theorem fe_lm_g (l0 l1 l2 l3 : Int) {n cap : Nat} {o : Nat → SetP} {l : List Int} {m : List Int} {z : List Int} {Wl : List Int} (hla : laOb (cAnd 1 l0) 4 (cAnd 1 l1) 4 (cMod 6 l2) 6 (cMod 6 l3) (mkA (cAnd 1 l0) 4 (cAnd 1 l1) 2 4 (cMod 6 l2) 6 (cMod 6 l3) 2).W (setRow o) n Wl) (hU : InU Wl) (hlen : (Wl.length : Int) = sizeV (cAnd 1 l0) 4 (cAnd 1 l1) 4 (cMod 6 l2) 6 (cMod 6 l3)) (e0 : hsR (cAnd 1 l0) 4 (cAnd 1 l1) 2 4 (cMod 6 l2) 6 (cMod 6 l3) 2 0 Wl.length Wl = .ok (some l)) (e1 : hsR (cAnd 1 l0) 4 (cAnd 1 l1) 2 4 (cMod 6 l2) 6 (cMod 6 l3) 2 1 Wl.length Wl = .ok (some m)) (eF : frR (.ok (some l)) (.ok (some m)) = .ok (some z)) (hz1 : z.length = l.length + m.length) (hz2 : z.Pairwise (· < ·)) (hz3 : ∀ x ∈ z, x ∈ l ∨ x ∈ m) (hz4 : z.length ≤ 24) (hM : ¬ cMod 6 l2 + cMod 6 l3 = 0) :
    Gives Tryd.prog 6 [L4 l0 l1 l2 l3, .slice 0 0 n cap] [stO n o, pinE RTV] (Is .tt [stO n o, pinE RTV]) := by
  skip
  have hr := cfg_rightH l0 l1 l2 l3
  have hsz2 := size_bd hr
  have hm2 := cMod6 l2
  have hm3 := cMod6 l3
  have o0 : lsOb (.ok (some l)) Wl.length Wl.length Wl := .inl ⟨rfl, rfl, hU⟩
  have o1 : lsOb (.ok (some m)) Wl.length Wl.length Wl := .inl ⟨rfl, rfl, hU⟩
  have hF : fOb (cAnd 1 l0) 4 (cAnd 1 l1) 2 4 (cMod 6 l2) 6 (cMod 6 l3) 2 (.ok (some z)) Wl.length Wl.length Wl := .inl ⟨hr, rfl, rfl, hU, hlen, by omega, by rw [e0, e1]; exact eF⟩
  have hMk := mk_free hr
  rw [if_neg hM] at hMk
  have hMo : fOb (cAnd 1 l0) 4 (cAnd 1 l1) 2 4 (cMod 6 l2) 6 (cMod 6 l3) 2 (.ok (some (rngL (cMod 6 l2 + cMod 6 l3).toNat))) (mkA (cAnd 1 l0) 4 (cAnd 1 l1) 2 4 (cMod 6 l2) 6 (cMod 6 l3) 2).W.length (mkA (cAnd 1 l0) 4 (cAnd 1 l1) 2 4 (cMod 6 l2) 6 (cMod 6 l3) 2).W.length (mkA (cAnd 1 l0) 4 (cAnd 1 l1) 2 4 (cMod 6 l2) 6 (cMod 6 l3) 2).W := .inl ⟨hr, rfl, rfl, mkA_in hr, by rw [mkA_len]; omega, by omega, hMk⟩
  have hbl : IntKind.i64.wrap (cMod 6 l2 + cMod 6 l3) = cMod 6 l2 + cMod 6 l3 := wi64 (by omega) (by omega)
  skip
  have hX := hXHh Wl (.ok (some l)) (.ok (some m)) (.ok (some z)) (.ok (some (rngL (cMod 6 l2 + cMod 6 l3).toNat))) 4
  refine gives_x hX (fn := Tryd.f6) rfl rfl rfl rfl fun ρ w => ?_
  have tail := ft_lm n o (Wl := Wl) (l := l) (m := m) (z := z) (rM := .ok (some (rngL (cMod 6 l2 + cMod 6 l3).toNat))) (h0 := 4) hz1 hz2 hz3 hz4 (ρ := ρ) (w := w)
  have t1 : SS (hXHh Wl (.ok (some l)) (.ok (some m)) (.ok (some z)) (.ok (some (rngL (cMod 6 l2 + cMod 6 l3).toNat))) 4) (At ρ w) (Is .tt [stO n o, pinE RTV]) ⟨[], [], Tryd.f6, Tryd.f6.ntmps, [stO n o, pinE RTV], contF Tryd.f6 10 [], [(5, .tt), (8, .sbuf 2 1 0 l.length), (9, .niliface), (10, .sbuf 3 1 0 m.length), (11, .niliface), (12, .sbuf 4 1 0 z.length), (13, .niliface), (14, .sbuf 5 1 0 (rngL (cMod 6 l2 + cMod 6 l3).toNat).length)], (fH_lm n o l m z ++ [IB (rngL (cMod 6 l2 + cMod 6 l3).toNat)])⟩ := by
    refine sxb hX [.l] [] 4000 rfl trivial ?_
    have hrl := rng_len (cMod 6 l2 + cMod 6 l3).toNat
    have htn : (((cMod 6 l2 + cMod 6 l3).toNat : Nat) : Int) = cMod 6 l2 + cMod 6 l3 := by omega
    have hrg := fun (i : Nat) (h : i < (cMod 6 l2 + cMod 6 l3).toNat) => rng_get h
    generalize rngL (cMod 6 l2 + cMod 6 l3).toNat = g at *
    refine ss_sub hX (T' := [(5, .tt), (8, .sbuf 2 1 0 l.length), (9, .niliface), (10, .sbuf 3 1 0 m.length), (11, .niliface), (12, .sbuf 4 1 0 z.length), (13, .niliface), (14, .sbuf 5 1 0 g.length), (16, .int .i64 ((0 : Nat) : Int))]) (H' := (fH_lm n o l m z ++ [IB (g)])) [0, 1, 2, 3, 4, 5] rfl rfl rfl rfl (by (repeat' (first | exact rfl | exact trivial | exact sim_refl _ | refine And.intro ?_ ?_))) (by (repeat' (first | exact rfl | exact trivial | exact sim_refl _ | refine And.intro ?_ ?_))) (by (repeat' (first | exact rfl | exact trivial | exact sim_refl _ | refine And.intro ?_ ?_))) (by (repeat' (first | exact rfl | exact trivial | exact sim_refl _ | refine And.intro ?_ ?_))) ?_
    refine ss_loop hX (fun i : Nat => [(5, .tt), (8, .sbuf 2 1 0 l.length), (9, .niliface), (10, .sbuf 3 1 0 m.length), (11, .niliface), (12, .sbuf 4 1 0 z.length), (13, .niliface), (14, .sbuf 5 1 0 g.length), (16, .int .i64 (i : Int))]) (fun _ => (fH_lm n o l m z ++ [IB (g)])) (fun i => i ≤ g.length) (fun i => g.length - i) 0 (Nat.zero_le _) ?_
    intro i hi0 I2 back
    have hi : i ≤ g.length := hi0
    by_cases h1 : i < g.length
    · have h2 : (i : Int) < (g.length : Int) := by omega
      have h3 := hrg i (by omega)
      have h4 : IntKind.i64.wrap ((i : Int) + 1) = (i : Int) + 1 := wi64 (by omega) (by omega)
      refine sx hX [] 4000 rfl (by (simp [conjP])) ?_
      refine sx hX [.T] 4000 rfl (by (simp [conjP, h1, h2, cellOff])) ?_
      refine sx hX [.F] 4000 rfl (by (simp [-List.getD_eq_getElem?_getD, -List.length_eq_zero_iff, conjP, addOP, h3, h4, cellOff])) ?_
      (refine back (i + 1) ?q1 ?q2 _ _ _ (sub_of [0, 1, 2, 3, 4, 5] rfl rfl rfl rfl ?tt (by (repeat' (first | exact rfl | exact trivial | exact sim_refl _ | refine And.intro ?_ ?_))) (by (repeat' (first | exact rfl | exact trivial | exact sim_refl _ | refine And.intro ?_ ?_))) (by (repeat' (first | exact rfl | exact trivial | exact sim_refl _ | refine And.intro ?_ ?_)))); (case tt => refine ⟨by (repeat' (first | exact rfl | exact trivial | exact sim_refl _ | refine And.intro ?_ ?_)), by (repeat' (first | exact rfl | exact trivial | exact sim_refl _ | refine And.intro ?_ ?_)), by (repeat' (first | exact rfl | exact trivial | exact sim_refl _ | refine And.intro ?_ ?_)), by (repeat' (first | exact rfl | exact trivial | exact sim_refl _ | refine And.intro ?_ ?_)), by (repeat' (first | exact rfl | exact trivial | exact sim_refl _ | refine And.intro ?_ ?_)), by (repeat' (first | exact rfl | exact trivial | exact sim_refl _ | refine And.intro ?_ ?_)), by (repeat' (first | exact rfl | exact trivial | exact sim_refl _ | refine And.intro ?_ ?_)), by (repeat' (first | exact rfl | exact trivial | exact sim_refl _ | refine And.intro ?_ ?_)), ⟨rfl, by rw [h4]; omega⟩, trivial⟩); (case q1 => exact h1); (case q2 => omega))
    · have h2 : ¬ (i : Int) < (g.length : Int) := by omega
      refine sxb hX [.r 15] [] 4000 rfl (by (simp [conjP])) ?_
      refine sxb hX [.r 15] [.F] 4000 rfl (by (simp [conjP, addOP, h2])) ?_
      (refine ss_sub hX (T' := fT_lm l m z) (H' := fH_lm n o l m z) [0, 1, 2, 3, 4] rfl rfl rfl rfl (by (repeat' (first | exact rfl | exact trivial | exact sim_refl _ | refine And.intro ?_ ?_))) (by (repeat' (first | exact rfl | exact trivial | exact sim_refl _ | refine And.intro ?_ ?_))) (by (repeat' (first | exact rfl | exact trivial | exact sim_refl _ | refine And.intro ?_ ?_))) (by (repeat' (first | exact rfl | exact trivial | exact sim_refl _ | refine And.intro ?_ ?_))) ?_; exact tail)
  have hrl := rng_len (cMod 6 l2 + cMod 6 l3).toNat
  have htn : (((cMod 6 l2 + cMod 6 l3).toNat : Nat) : Int) = cMod 6 l2 + cMod 6 l3 := by omega
  refine sxb hX [.r 10] [] 4000 rfl (by (simp [conjP, getH, HE.so, hr, hla, sel0, sel1, e0, e1, o0, o1, hF, hMo])) ?_
  refine sxb hX [.r 10] [.F] 4000 rfl (by (simp [conjP])) ?_
  refine sxb hX [.r 10] [.F] 4000 rfl (by (simp [conjP, addOP, hbl, hrl, htn])) ?_
  (refine ss_sub hX (T' := [(5, .tt), (8, .sbuf 2 1 0 l.length), (9, .niliface), (10, .sbuf 3 1 0 m.length), (11, .niliface), (12, .sbuf 4 1 0 z.length), (13, .niliface), (14, .sbuf 5 1 0 (rngL (cMod 6 l2 + cMod 6 l3).toNat).length)]) (H' := (fH_lm n o l m z ++ [IB (rngL (cMod 6 l2 + cMod 6 l3).toNat)])) [0, 1, 5, 6, 7, 10] rfl rfl rfl rfl (by (repeat' (first | exact rfl | exact trivial | exact sim_refl _ | refine And.intro ?_ ?_))) (by (repeat' (first | exact rfl | exact trivial | exact sim_refl _ | refine And.intro ?_ ?_))) (by (repeat' (first | exact rfl | exact trivial | exact sim_refl _ | refine And.intro ?_ ?_))) (by (repeat' (first | exact rfl | exact trivial | exact sim_refl _ | refine And.intro ?_ ?_))) ?_; exact t1)

set_option maxHeartbeats 16000000 in
theorem fe_nb_n (l0 l1 l2 l3 : Int) {n cap : Nat} {o : Nat → SetP} {e p : Int} {Wl : List Int} (hla : laOb (cAnd 1 l0) 4 (cAnd 1 l1) 4 (cMod 6 l2) 6 (cMod 6 l3) (mkA (cAnd 1 l0) 4 (cAnd 1 l1) 2 4 (cMod 6 l2) 6 (cMod 6 l3) 2).W (setRow o) n Wl) (hU : InU Wl) (hlen : (Wl.length : Int) = sizeV (cAnd 1 l0) 4 (cAnd 1 l1) 4 (cMod 6 l2) 6 (cMod 6 l3)) (e0 : hsR (cAnd 1 l0) 4 (cAnd 1 l1) 2 4 (cMod 6 l2) 6 (cMod 6 l3) 2 0 Wl.length Wl = .ok none) (e1 : hsR (cAnd 1 l0) 4 (cAnd 1 l1) 2 4 (cMod 6 l2) 6 (cMod 6 l3) 2 1 Wl.length Wl = .bad e p) (eF : frR (.ok none) (.bad e p) = .bad e p) (he : e = 10 ∨ e = 16) (hM : cMod 6 l2 + cMod 6 l3 = 0) :
    Gives Tryd.prog 6 [L4 l0 l1 l2 l3, .slice 0 0 n cap] [stO n o, pinE RTV] (Is .tt [stO n o, pinE RTV]) := by
  skip
  have hr := cfg_rightH l0 l1 l2 l3
  have hsz2 := size_bd hr
  have hm2 := cMod6 l2
  have hm3 := cMod6 l3
  have o0 : lsOb (.ok none) Wl.length Wl.length Wl := .inl ⟨rfl, rfl, hU⟩
  have o1 : lsOb (.bad e p) Wl.length Wl.length Wl := .inl ⟨rfl, rfl, hU⟩
  have hF : fOb (cAnd 1 l0) 4 (cAnd 1 l1) 2 4 (cMod 6 l2) 6 (cMod 6 l3) 2 (.bad e p) Wl.length Wl.length Wl := .inl ⟨hr, rfl, rfl, hU, hlen, by omega, by rw [e0, e1]; exact eF⟩
  have hMk := mk_free hr
  rw [if_pos hM] at hMk
  have hMo : fOb (cAnd 1 l0) 4 (cAnd 1 l1) 2 4 (cMod 6 l2) 6 (cMod 6 l3) 2 (.ok none) (mkA (cAnd 1 l0) 4 (cAnd 1 l1) 2 4 (cMod 6 l2) 6 (cMod 6 l3) 2).W.length (mkA (cAnd 1 l0) 4 (cAnd 1 l1) 2 4 (cMod 6 l2) 6 (cMod 6 l3) 2).W.length (mkA (cAnd 1 l0) 4 (cAnd 1 l1) 2 4 (cMod 6 l2) 6 (cMod 6 l3) 2).W := .inl ⟨hr, rfl, rfl, mkA_in hr, by rw [mkA_len]; omega, by omega, hMk⟩
  have hbl : IntKind.i64.wrap (cMod 6 l2 + cMod 6 l3) = cMod 6 l2 + cMod 6 l3 := wi64 (by omega) (by omega)
  have hbl0 : IntKind.i64.wrap (cMod 6 l2 + cMod 6 l3) = 0 := by rw [hbl, hM]
  have hX := hXHh Wl (.ok none) (.bad e p) (.bad e p) (.ok none) 4
  refine gives_x hX (fn := Tryd.f6) rfl rfl rfl rfl fun ρ w => ?_
  have tail := ft_nb n o (Wl := Wl) (e := e) (p := p) (rM := .ok none) (h0 := 4) he (ρ := ρ) (w := w)
  have t1 : SS (hXHh Wl (.ok none) (.bad e p) (.bad e p) (.ok none) 4) (At ρ w) (Is .tt [stO n o, pinE RTV]) ⟨[], [], Tryd.f6, Tryd.f6.ntmps, [stO n o, pinE RTV], contF Tryd.f6 10 [], [(5, .tt), (8, .nilslice), (9, .niliface), (10, .nilslice), (11, .iface 93 (.ptr 2 0)), (12, .nilslice), (13, .iface 93 (.ptr 3 0)), (14, .nilslice)], fH_nb n o e p⟩ := by
    refine sxb hX [.l] [] 4000 rfl trivial ?_
    refine ss_sub hX (T' := [(5, .tt), (8, .nilslice), (9, .niliface), (10, .nilslice), (11, .iface 93 (.ptr 2 0)), (12, .nilslice), (13, .iface 93 (.ptr 3 0)), (14, .nilslice), (16, .int .i64 0)]) (H' := fH_nb n o e p) [0, 1, 2, 3] rfl rfl rfl rfl (by (repeat' (first | exact rfl | exact trivial | exact sim_refl _ | refine And.intro ?_ ?_))) (by (repeat' (first | exact rfl | exact trivial | exact sim_refl _ | refine And.intro ?_ ?_))) (by (repeat' (first | exact rfl | exact trivial | exact sim_refl _ | refine And.intro ?_ ?_))) (by (repeat' (first | exact rfl | exact trivial | exact sim_refl _ | refine And.intro ?_ ?_))) ?_
    refine ss_loop hX (fun _ : Unit => [(5, .tt), (8, .nilslice), (9, .niliface), (10, .nilslice), (11, .iface 93 (.ptr 2 0)), (12, .nilslice), (13, .iface 93 (.ptr 3 0)), (14, .nilslice), (16, .int .i64 0)]) (fun _ => fH_nb n o e p) (fun _ => True) (fun _ => 0) () trivial ?_
    intro _ _ I2 _
    refine sxb hX [.r 15] [] 4000 rfl (by (simp [conjP])) ?_
    refine sxb hX [.r 15] [.F] 4000 rfl (by (simp [conjP, addOP])) ?_
    (refine ss_sub hX (T' := fT_nb e p) (H' := fH_nb n o e p) [0, 1, 2, 3] rfl rfl rfl rfl (by (repeat' (first | exact rfl | exact trivial | exact sim_refl _ | refine And.intro ?_ ?_))) (by (repeat' (first | exact rfl | exact trivial | exact sim_refl _ | refine And.intro ?_ ?_))) (by (repeat' (first | exact rfl | exact trivial | exact sim_refl _ | refine And.intro ?_ ?_))) (by (repeat' (first | exact rfl | exact trivial | exact sim_refl _ | refine And.intro ?_ ?_))) ?_; exact tail)
  refine sxb hX [.r 10] [] 4000 rfl (by (simp [conjP, getH, HE.so, hr, hla, sel0, sel1, e0, e1, o0, o1, hF, hMo])) ?_
  refine sxb hX [.r 10] [.F] 4000 rfl (by (simp [conjP])) ?_
  refine sxb hX [.r 10] [.F] 4000 rfl (by (simp [conjP, addOP, hbl0])) ?_
  (refine ss_sub hX (T' := [(5, .tt), (8, .nilslice), (9, .niliface), (10, .nilslice), (11, .iface 93 (.ptr 2 0)), (12, .nilslice), (13, .iface 93 (.ptr 3 0)), (14, .nilslice)]) (H' := fH_nb n o e p) [0, 1, 5, 6] rfl rfl rfl rfl (by (repeat' (first | exact rfl | exact trivial | exact sim_refl _ | refine And.intro ?_ ?_))) (by (repeat' (first | exact rfl | exact trivial | exact sim_refl _ | refine And.intro ?_ ?_))) (by (repeat' (first | exact rfl | exact trivial | exact sim_refl _ | refine And.intro ?_ ?_))) (by (repeat' (first | exact rfl | exact trivial | exact sim_refl _ | refine And.intro ?_ ?_))) ?_; exact t1)

set_option maxHeartbeats 16000000 in
theorem fe_nb_g (l0 l1 l2 l3 : Int) {n cap : Nat} {o : Nat → SetP} {e p : Int} {Wl : List Int} (hla : laOb (cAnd 1 l0) 4 (cAnd 1 l1) 4 (cMod 6 l2) 6 (cMod 6 l3) (mkA (cAnd 1 l0) 4 (cAnd 1 l1) 2 4 (cMod 6 l2) 6 (cMod 6 l3) 2).W (setRow o) n Wl) (hU : InU Wl) (hlen : (Wl.length : Int) = sizeV (cAnd 1 l0) 4 (cAnd 1 l1) 4 (cMod 6 l2) 6 (cMod 6 l3)) (e0 : hsR (cAnd 1 l0) 4 (cAnd 1 l1) 2 4 (cMod 6 l2) 6 (cMod 6 l3) 2 0 Wl.length Wl = .ok none) (e1 : hsR (cAnd 1 l0) 4 (cAnd 1 l1) 2 4 (cMod 6 l2) 6 (cMod 6 l3) 2 1 Wl.length Wl = .bad e p) (eF : frR (.ok none) (.bad e p) = .bad e p) (he : e = 10 ∨ e = 16) (hM : ¬ cMod 6 l2 + cMod 6 l3 = 0) :
    Gives Tryd.prog 6 [L4 l0 l1 l2 l3, .slice 0 0 n cap] [stO n o, pinE RTV] (Is .tt [stO n o, pinE RTV]) := by
  skip
  have hr := cfg_rightH l0 l1 l2 l3
  have hsz2 := size_bd hr
  have hm2 := cMod6 l2
  have hm3 := cMod6 l3
  have o0 : lsOb (.ok none) Wl.length Wl.length Wl := .inl ⟨rfl, rfl, hU⟩
  have o1 : lsOb (.bad e p) Wl.length Wl.length Wl := .inl ⟨rfl, rfl, hU⟩
  have hF : fOb (cAnd 1 l0) 4 (cAnd 1 l1) 2 4 (cMod 6 l2) 6 (cMod 6 l3) 2 (.bad e p) Wl.length Wl.length Wl := .inl ⟨hr, rfl, rfl, hU, hlen, by omega, by rw [e0, e1]; exact eF⟩
  have hMk := mk_free hr
  rw [if_neg hM] at hMk
  have hMo : fOb (cAnd 1 l0) 4 (cAnd 1 l1) 2 4 (cMod 6 l2) 6 (cMod 6 l3) 2 (.ok (some (rngL (cMod 6 l2 + cMod 6 l3).toNat))) (mkA (cAnd 1 l0) 4 (cAnd 1 l1) 2 4 (cMod 6 l2) 6 (cMod 6 l3) 2).W.length (mkA (cAnd 1 l0) 4 (cAnd 1 l1) 2 4 (cMod 6 l2) 6 (cMod 6 l3) 2).W.length (mkA (cAnd 1 l0) 4 (cAnd 1 l1) 2 4 (cMod 6 l2) 6 (cMod 6 l3) 2).W := .inl ⟨hr, rfl, rfl, mkA_in hr, by rw [mkA_len]; omega, by omega, hMk⟩
  have hbl : IntKind.i64.wrap (cMod 6 l2 + cMod 6 l3) = cMod 6 l2 + cMod 6 l3 := wi64 (by omega) (by omega)
  skip
  have hX := hXHh Wl (.ok none) (.bad e p) (.bad e p) (.ok (some (rngL (cMod 6 l2 + cMod 6 l3).toNat))) 4
  refine gives_x hX (fn := Tryd.f6) rfl rfl rfl rfl fun ρ w => ?_
  have tail := ft_nb n o (Wl := Wl) (e := e) (p := p) (rM := .ok (some (rngL (cMod 6 l2 + cMod 6 l3).toNat))) (h0 := 4) he (ρ := ρ) (w := w)
  have t1 : SS (hXHh Wl (.ok none) (.bad e p) (.bad e p) (.ok (some (rngL (cMod 6 l2 + cMod 6 l3).toNat))) 4) (At ρ w) (Is .tt [stO n o, pinE RTV]) ⟨[], [], Tryd.f6, Tryd.f6.ntmps, [stO n o, pinE RTV], contF Tryd.f6 10 [], [(5, .tt), (8, .nilslice), (9, .niliface), (10, .nilslice), (11, .iface 93 (.ptr 2 0)), (12, .nilslice), (13, .iface 93 (.ptr 3 0)), (14, .sbuf 4 1 0 (rngL (cMod 6 l2 + cMod 6 l3).toNat).length)], (fH_nb n o e p ++ [IB (rngL (cMod 6 l2 + cMod 6 l3).toNat)])⟩ := by
    refine sxb hX [.l] [] 4000 rfl trivial ?_
    have hrl := rng_len (cMod 6 l2 + cMod 6 l3).toNat
    have htn : (((cMod 6 l2 + cMod 6 l3).toNat : Nat) : Int) = cMod 6 l2 + cMod 6 l3 := by omega
    have hrg := fun (i : Nat) (h : i < (cMod 6 l2 + cMod 6 l3).toNat) => rng_get h
    generalize rngL (cMod 6 l2 + cMod 6 l3).toNat = g at *
    refine ss_sub hX (T' := [(5, .tt), (8, .nilslice), (9, .niliface), (10, .nilslice), (11, .iface 93 (.ptr 2 0)), (12, .nilslice), (13, .iface 93 (.ptr 3 0)), (14, .sbuf 4 1 0 g.length), (16, .int .i64 ((0 : Nat) : Int))]) (H' := (fH_nb n o e p ++ [IB (g)])) [0, 1, 2, 3, 4] rfl rfl rfl rfl (by (repeat' (first | exact rfl | exact trivial | exact sim_refl _ | refine And.intro ?_ ?_))) (by (repeat' (first | exact rfl | exact trivial | exact sim_refl _ | refine And.intro ?_ ?_))) (by (repeat' (first | exact rfl | exact trivial | exact sim_refl _ | refine And.intro ?_ ?_))) (by (repeat' (first | exact rfl | exact trivial | exact sim_refl _ | refine And.intro ?_ ?_))) ?_
    refine ss_loop hX (fun i : Nat => [(5, .tt), (8, .nilslice), (9, .niliface), (10, .nilslice), (11, .iface 93 (.ptr 2 0)), (12, .nilslice), (13, .iface 93 (.ptr 3 0)), (14, .sbuf 4 1 0 g.length), (16, .int .i64 (i : Int))]) (fun _ => (fH_nb n o e p ++ [IB (g)])) (fun i => i ≤ g.length) (fun i => g.length - i) 0 (Nat.zero_le _) ?_
    intro i hi0 I2 back
    have hi : i ≤ g.length := hi0
    by_cases h1 : i < g.length
    · have h2 : (i : Int) < (g.length : Int) := by omega
      have h3 := hrg i (by omega)
      have h4 : IntKind.i64.wrap ((i : Int) + 1) = (i : Int) + 1 := wi64 (by omega) (by omega)
      refine sx hX [] 4000 rfl (by (simp [conjP])) ?_
      refine sx hX [.T] 4000 rfl (by (simp [conjP, h1, h2, cellOff])) ?_
      refine sx hX [.F] 4000 rfl (by (simp [-List.getD_eq_getElem?_getD, -List.length_eq_zero_iff, conjP, addOP, h3, h4, cellOff])) ?_
      (refine back (i + 1) ?q1 ?q2 _ _ _ (sub_of [0, 1, 2, 3, 4] rfl rfl rfl rfl ?tt (by (repeat' (first | exact rfl | exact trivial | exact sim_refl _ | refine And.intro ?_ ?_))) (by (repeat' (first | exact rfl | exact trivial | exact sim_refl _ | refine And.intro ?_ ?_))) (by (repeat' (first | exact rfl | exact trivial | exact sim_refl _ | refine And.intro ?_ ?_)))); (case tt => refine ⟨by (repeat' (first | exact rfl | exact trivial | exact sim_refl _ | refine And.intro ?_ ?_)), by (repeat' (first | exact rfl | exact trivial | exact sim_refl _ | refine And.intro ?_ ?_)), by (repeat' (first | exact rfl | exact trivial | exact sim_refl _ | refine And.intro ?_ ?_)), by (repeat' (first | exact rfl | exact trivial | exact sim_refl _ | refine And.intro ?_ ?_)), by (repeat' (first | exact rfl | exact trivial | exact sim_refl _ | refine And.intro ?_ ?_)), by (repeat' (first | exact rfl | exact trivial | exact sim_refl _ | refine And.intro ?_ ?_)), by (repeat' (first | exact rfl | exact trivial | exact sim_refl _ | refine And.intro ?_ ?_)), by (repeat' (first | exact rfl | exact trivial | exact sim_refl _ | refine And.intro ?_ ?_)), ⟨rfl, by rw [h4]; omega⟩, trivial⟩); (case q1 => exact h1); (case q2 => omega))
    · have h2 : ¬ (i : Int) < (g.length : Int) := by omega
      refine sxb hX [.r 15] [] 4000 rfl (by (simp [conjP])) ?_
      refine sxb hX [.r 15] [.F] 4000 rfl (by (simp [conjP, addOP, h2])) ?_
      (refine ss_sub hX (T' := fT_nb e p) (H' := fH_nb n o e p) [0, 1, 2, 3] rfl rfl rfl rfl (by (repeat' (first | exact rfl | exact trivial | exact sim_refl _ | refine And.intro ?_ ?_))) (by (repeat' (first | exact rfl | exact trivial | exact sim_refl _ | refine And.intro ?_ ?_))) (by (repeat' (first | exact rfl | exact trivial | exact sim_refl _ | refine And.intro ?_ ?_))) (by (repeat' (first | exact rfl | exact trivial | exact sim_refl _ | refine And.intro ?_ ?_))) ?_; exact tail)
  have hrl := rng_len (cMod 6 l2 + cMod 6 l3).toNat
  have htn : (((cMod 6 l2 + cMod 6 l3).toNat : Nat) : Int) = cMod 6 l2 + cMod 6 l3 := by omega
  refine sxb hX [.r 10] [] 4000 rfl (by (simp [conjP, getH, HE.so, hr, hla, sel0, sel1, e0, e1, o0, o1, hF, hMo])) ?_
  refine sxb hX [.r 10] [.F] 4000 rfl (by (simp [conjP])) ?_
  refine sxb hX [.r 10] [.F] 4000 rfl (by (simp [conjP, addOP, hbl, hrl, htn])) ?_
  (refine ss_sub hX (T' := [(5, .tt), (8, .nilslice), (9, .niliface), (10, .nilslice), (11, .iface 93 (.ptr 2 0)), (12, .nilslice), (13, .iface 93 (.ptr 3 0)), (14, .sbuf 4 1 0 (rngL (cMod 6 l2 + cMod 6 l3).toNat).length)]) (H' := (fH_nb n o e p ++ [IB (rngL (cMod 6 l2 + cMod 6 l3).toNat)])) [0, 1, 5, 6, 9] rfl rfl rfl rfl (by (repeat' (first | exact rfl | exact trivial | exact sim_refl _ | refine And.intro ?_ ?_))) (by (repeat' (first | exact rfl | exact trivial | exact sim_refl _ | refine And.intro ?_ ?_))) (by (repeat' (first | exact rfl | exact trivial | exact sim_refl _ | refine And.intro ?_ ?_))) (by (repeat' (first | exact rfl | exact trivial | exact sim_refl _ | refine And.intro ?_ ?_))) ?_; exact t1)

set_option maxHeartbeats 16000000 in
theorem fe_lb_n (l0 l1 l2 l3 : Int) {n cap : Nat} {o : Nat → SetP} {l : List Int} {e p : Int} {Wl : List Int} (hla : laOb (cAnd 1 l0) 4 (cAnd 1 l1) 4 (cMod 6 l2) 6 (cMod 6 l3) (mkA (cAnd 1 l0) 4 (cAnd 1 l1) 2 4 (cMod 6 l2) 6 (cMod 6 l3) 2).W (setRow o) n Wl) (hU : InU Wl) (hlen : (Wl.length : Int) = sizeV (cAnd 1 l0) 4 (cAnd 1 l1) 4 (cMod 6 l2) 6 (cMod 6 l3)) (e0 : hsR (cAnd 1 l0) 4 (cAnd 1 l1) 2 4 (cMod 6 l2) 6 (cMod 6 l3) 2 0 Wl.length Wl = .ok (some l)) (e1 : hsR (cAnd 1 l0) 4 (cAnd 1 l1) 2 4 (cMod 6 l2) 6 (cMod 6 l3) 2 1 Wl.length Wl = .bad e p) (eF : frR (.ok (some l)) (.bad e p) = .bad e p) (he : e = 10 ∨ e = 16) (hM : cMod 6 l2 + cMod 6 l3 = 0) :
    Gives Tryd.prog 6 [L4 l0 l1 l2 l3, .slice 0 0 n cap] [stO n o, pinE RTV] (Is .tt [stO n o, pinE RTV]) := by
  skip
  have hr := cfg_rightH l0 l1 l2 l3
  have hsz2 := size_bd hr
  have hm2 := cMod6 l2
  have hm3 := cMod6 l3
  have o0 : lsOb (.ok (some l)) Wl.length Wl.length Wl := .inl ⟨rfl, rfl, hU⟩
  have o1 : lsOb (.bad e p) Wl.length Wl.length Wl := .inl ⟨rfl, rfl, hU⟩
  have hF : fOb (cAnd 1 l0) 4 (cAnd 1 l1) 2 4 (cMod 6 l2) 6 (cMod 6 l3) 2 (.bad e p) Wl.length Wl.length Wl := .inl ⟨hr, rfl, rfl, hU, hlen, by omega, by rw [e0, e1]; exact eF⟩
  have hMk := mk_free hr
  rw [if_pos hM] at hMk
  have hMo : fOb (cAnd 1 l0) 4 (cAnd 1 l1) 2 4 (cMod 6 l2) 6 (cMod 6 l3) 2 (.ok none) (mkA (cAnd 1 l0) 4 (cAnd 1 l1) 2 4 (cMod 6 l2) 6 (cMod 6 l3) 2).W.length (mkA (cAnd 1 l0) 4 (cAnd 1 l1) 2 4 (cMod 6 l2) 6 (cMod 6 l3) 2).W.length (mkA (cAnd 1 l0) 4 (cAnd 1 l1) 2 4 (cMod 6 l2) 6 (cMod 6 l3) 2).W := .inl ⟨hr, rfl, rfl, mkA_in hr, by rw [mkA_len]; omega, by omega, hMk⟩
  have hbl : IntKind.i64.wrap (cMod 6 l2 + cMod 6 l3) = cMod 6 l2 + cMod 6 l3 := wi64 (by omega) (by omega)
  have hbl0 : IntKind.i64.wrap (cMod 6 l2 + cMod 6 l3) = 0 := by rw [hbl, hM]
  have hX := hXHh Wl (.ok (some l)) (.bad e p) (.bad e p) (.ok none) 4
  refine gives_x hX (fn := Tryd.f6) rfl rfl rfl rfl fun ρ w => ?_
  have tail := ft_lb n o (Wl := Wl) (l := l) (e := e) (p := p) (rM := .ok none) (h0 := 4) he (ρ := ρ) (w := w)
  have t1 : SS (hXHh Wl (.ok (some l)) (.bad e p) (.bad e p) (.ok none) 4) (At ρ w) (Is .tt [stO n o, pinE RTV]) ⟨[], [], Tryd.f6, Tryd.f6.ntmps, [stO n o, pinE RTV], contF Tryd.f6 10 [], [(5, .tt), (8, .sbuf 2 1 0 l.length), (9, .niliface), (10, .nilslice), (11, .iface 93 (.ptr 3 0)), (12, .nilslice), (13, .iface 93 (.ptr 4 0)), (14, .nilslice)], fH_lb n o l e p⟩ := by
    refine sxb hX [.l] [] 4000 rfl trivial ?_
    refine ss_sub hX (T' := [(5, .tt), (8, .sbuf 2 1 0 l.length), (9, .niliface), (10, .nilslice), (11, .iface 93 (.ptr 3 0)), (12, .nilslice), (13, .iface 93 (.ptr 4 0)), (14, .nilslice), (16, .int .i64 0)]) (H' := fH_lb n o l e p) [0, 1, 2, 3, 4] rfl rfl rfl rfl (by (repeat' (first | exact rfl | exact trivial | exact sim_refl _ | refine And.intro ?_ ?_))) (by (repeat' (first | exact rfl | exact trivial | exact sim_refl _ | refine And.intro ?_ ?_))) (by (repeat' (first | exact rfl | exact trivial | exact sim_refl _ | refine And.intro ?_ ?_))) (by (repeat' (first | exact rfl | exact trivial | exact sim_refl _ | refine And.intro ?_ ?_))) ?_
    refine ss_loop hX (fun _ : Unit => [(5, .tt), (8, .sbuf 2 1 0 l.length), (9, .niliface), (10, .nilslice), (11, .iface 93 (.ptr 3 0)), (12, .nilslice), (13, .iface 93 (.ptr 4 0)), (14, .nilslice), (16, .int .i64 0)]) (fun _ => fH_lb n o l e p) (fun _ => True) (fun _ => 0) () trivial ?_
    intro _ _ I2 _
    refine sxb hX [.r 15] [] 4000 rfl (by (simp [conjP])) ?_
    refine sxb hX [.r 15] [.F] 4000 rfl (by (simp [conjP, addOP])) ?_
    (refine ss_sub hX (T' := fT_lb l e p) (H' := fH_lb n o l e p) [0, 1, 2, 3, 4] rfl rfl rfl rfl (by (repeat' (first | exact rfl | exact trivial | exact sim_refl _ | refine And.intro ?_ ?_))) (by (repeat' (first | exact rfl | exact trivial | exact sim_refl _ | refine And.intro ?_ ?_))) (by (repeat' (first | exact rfl | exact trivial | exact sim_refl _ | refine And.intro ?_ ?_))) (by (repeat' (first | exact rfl | exact trivial | exact sim_refl _ | refine And.intro ?_ ?_))) ?_; exact tail)
  refine sxb hX [.r 10] [] 4000 rfl (by (simp [conjP, getH, HE.so, hr, hla, sel0, sel1, e0, e1, o0, o1, hF, hMo])) ?_
  refine sxb hX [.r 10] [.F] 4000 rfl (by (simp [conjP])) ?_
  refine sxb hX [.r 10] [.F] 4000 rfl (by (simp [conjP, addOP, hbl0])) ?_
  (refine ss_sub hX (T' := [(5, .tt), (8, .sbuf 2 1 0 l.length), (9, .niliface), (10, .nilslice), (11, .iface 93 (.ptr 3 0)), (12, .nilslice), (13, .iface 93 (.ptr 4 0)), (14, .nilslice)]) (H' := fH_lb n o l e p) [0, 1, 5, 6, 7] rfl rfl rfl rfl (by (repeat' (first | exact rfl | exact trivial | exact sim_refl _ | refine And.intro ?_ ?_))) (by (repeat' (first | exact rfl | exact trivial | exact sim_refl _ | refine And.intro ?_ ?_))) (by (repeat' (first | exact rfl | exact trivial | exact sim_refl _ | refine And.intro ?_ ?_))) (by (repeat' (first | exact rfl | exact trivial | exact sim_refl _ | refine And.intro ?_ ?_))) ?_; exact t1)

set_option maxHeartbeats 16000000 in
theorem fe_lb_g (l0 l1 l2 l3 : Int) {n cap : Nat} {o : Nat → SetP} {l : List Int} {e p : Int} {Wl : List Int} (hla : laOb (cAnd 1 l0) 4 (cAnd 1 l1) 4 (cMod 6 l2) 6 (cMod 6 l3) (mkA (cAnd 1 l0) 4 (cAnd 1 l1) 2 4 (cMod 6 l2) 6 (cMod 6 l3) 2).W (setRow o) n Wl) (hU : InU Wl) (hlen : (Wl.length : Int) = sizeV (cAnd 1 l0) 4 (cAnd 1 l1) 4 (cMod 6 l2) 6 (cMod 6 l3)) (e0 : hsR (cAnd 1 l0) 4 (cAnd 1 l1) 2 4 (cMod 6 l2) 6 (cMod 6 l3) 2 0 Wl.length Wl = .ok (some l)) (e1 : hsR (cAnd 1 l0) 4 (cAnd 1 l1) 2 4 (cMod 6 l2) 6 (cMod 6 l3) 2 1 Wl.length Wl = .bad e p) (eF : frR (.ok (some l)) (.bad e p) = .bad e p) (he : e = 10 ∨ e = 16) (hM : ¬ cMod 6 l2 + cMod 6 l3 = 0) :
    Gives Tryd.prog 6 [L4 l0 l1 l2 l3, .slice 0 0 n cap] [stO n o, pinE RTV] (Is .tt [stO n o, pinE RTV]) := by
  skip
  have hr := cfg_rightH l0 l1 l2 l3
  have hsz2 := size_bd hr
  have hm2 := cMod6 l2
  have hm3 := cMod6 l3
  have o0 : lsOb (.ok (some l)) Wl.length Wl.length Wl := .inl ⟨rfl, rfl, hU⟩
  have o1 : lsOb (.bad e p) Wl.length Wl.length Wl := .inl ⟨rfl, rfl, hU⟩
  have hF : fOb (cAnd 1 l0) 4 (cAnd 1 l1) 2 4 (cMod 6 l2) 6 (cMod 6 l3) 2 (.bad e p) Wl.length Wl.length Wl := .inl ⟨hr, rfl, rfl, hU, hlen, by omega, by rw [e0, e1]; exact eF⟩
  have hMk := mk_free hr
  rw [if_neg hM] at hMk
  have hMo : fOb (cAnd 1 l0) 4 (cAnd 1 l1) 2 4 (cMod 6 l2) 6 (cMod 6 l3) 2 (.ok (some (rngL (cMod 6 l2 + cMod 6 l3).toNat))) (mkA (cAnd 1 l0) 4 (cAnd 1 l1) 2 4 (cMod 6 l2) 6 (cMod 6 l3) 2).W.length (mkA (cAnd 1 l0) 4 (cAnd 1 l1) 2 4 (cMod 6 l2) 6 (cMod 6 l3) 2).W.length (mkA (cAnd 1 l0) 4 (cAnd 1 l1) 2 4 (cMod 6 l2) 6 (cMod 6 l3) 2).W := .inl ⟨hr, rfl, rfl, mkA_in hr, by rw [mkA_len]; omega, by omega, hMk⟩
  have hbl : IntKind.i64.wrap (cMod 6 l2 + cMod 6 l3) = cMod 6 l2 + cMod 6 l3 := wi64 (by omega) (by omega)
  skip
  have hX := hXHh Wl (.ok (some l)) (.bad e p) (.bad e p) (.ok (some (rngL (cMod 6 l2 + cMod 6 l3).toNat))) 4
  refine gives_x hX (fn := Tryd.f6) rfl rfl rfl rfl fun ρ w => ?_
  have tail := ft_lb n o (Wl := Wl) (l := l) (e := e) (p := p) (rM := .ok (some (rngL (cMod 6 l2 + cMod 6 l3).toNat))) (h0 := 4) he (ρ := ρ) (w := w)
  have t1 : SS (hXHh Wl (.ok (some l)) (.bad e p) (.bad e p) (.ok (some (rngL (cMod 6 l2 + cMod 6 l3).toNat))) 4) (At ρ w) (Is .tt [stO n o, pinE RTV]) ⟨[], [], Tryd.f6, Tryd.f6.ntmps, [stO n o, pinE RTV], contF Tryd.f6 10 [], [(5, .tt), (8, .sbuf 2 1 0 l.length), (9, .niliface), (10, .nilslice), (11, .iface 93 (.ptr 3 0)), (12, .nilslice), (13, .iface 93 (.ptr 4 0)), (14, .sbuf 5 1 0 (rngL (cMod 6 l2 + cMod 6 l3).toNat).length)], (fH_lb n o l e p ++ [IB (rngL (cMod 6 l2 + cMod 6 l3).toNat)])⟩ := by
    refine sxb hX [.l] [] 4000 rfl trivial ?_
    have hrl := rng_len (cMod 6 l2 + cMod 6 l3).toNat
    have htn : (((cMod 6 l2 + cMod 6 l3).toNat : Nat) : Int) = cMod 6 l2 + cMod 6 l3 := by omega
    have hrg := fun (i : Nat) (h : i < (cMod 6 l2 + cMod 6 l3).toNat) => rng_get h
    generalize rngL (cMod 6 l2 + cMod 6 l3).toNat = g at *
    refine ss_sub hX (T' := [(5, .tt), (8, .sbuf 2 1 0 l.length), (9, .niliface), (10, .nilslice), (11, .iface 93 (.ptr 3 0)), (12, .nilslice), (13, .iface 93 (.ptr 4 0)), (14, .sbuf 5 1 0 g.length), (16, .int .i64 ((0 : Nat) : Int))]) (H' := (fH_lb n o l e p ++ [IB (g)])) [0, 1, 2, 3, 4, 5] rfl rfl rfl rfl (by (repeat' (first | exact rfl | exact trivial | exact sim_refl _ | refine And.intro ?_ ?_))) (by (repeat' (first | exact rfl | exact trivial | exact sim_refl _ | refine And.intro ?_ ?_))) (by (repeat' (first | exact rfl | exact trivial | exact sim_refl _ | refine And.intro ?_ ?_))) (by (repeat' (first | exact rfl | exact trivial | exact sim_refl _ | refine And.intro ?_ ?_))) ?_
    refine ss_loop hX (fun i : Nat => [(5, .tt), (8, .sbuf 2 1 0 l.length), (9, .niliface), (10, .nilslice), (11, .iface 93 (.ptr 3 0)), (12, .nilslice), (13, .iface 93 (.ptr 4 0)), (14, .sbuf 5 1 0 g.length), (16, .int .i64 (i : Int))]) (fun _ => (fH_lb n o l e p ++ [IB (g)])) (fun i => i ≤ g.length) (fun i => g.length - i) 0 (Nat.zero_le _) ?_
    intro i hi0 I2 back
    have hi : i ≤ g.length := hi0
    by_cases h1 : i < g.length
    · have h2 : (i : Int) < (g.length : Int) := by omega
      have h3 := hrg i (by omega)
      have h4 : IntKind.i64.wrap ((i : Int) + 1) = (i : Int) + 1 := wi64 (by omega) (by omega)
      refine sx hX [] 4000 rfl (by (simp [conjP])) ?_
      refine sx hX [.T] 4000 rfl (by (simp [conjP, h1, h2, cellOff])) ?_
      refine sx hX [.F] 4000 rfl (by (simp [-List.getD_eq_getElem?_getD, -List.length_eq_zero_iff, conjP, addOP, h3, h4, cellOff])) ?_
      (refine back (i + 1) ?q1 ?q2 _ _ _ (sub_of [0, 1, 2, 3, 4, 5] rfl rfl rfl rfl ?tt (by (repeat' (first | exact rfl | exact trivial | exact sim_refl _ | refine And.intro ?_ ?_))) (by (repeat' (first | exact rfl | exact trivial | exact sim_refl _ | refine And.intro ?_ ?_))) (by (repeat' (first | exact rfl | exact trivial | exact sim_refl _ | refine And.intro ?_ ?_)))); (case tt => refine ⟨by (repeat' (first | exact rfl | exact trivial | exact sim_refl _ | refine And.intro ?_ ?_)), by (repeat' (first | exact rfl | exact trivial | exact sim_refl _ | refine And.intro ?_ ?_)), by (repeat' (first | exact rfl | exact trivial | exact sim_refl _ | refine And.intro ?_ ?_)), by (repeat' (first | exact rfl | exact trivial | exact sim_refl _ | refine And.intro ?_ ?_)), by (repeat' (first | exact rfl | exact trivial | exact sim_refl _ | refine And.intro ?_ ?_)), by (repeat' (first | exact rfl | exact trivial | exact sim_refl _ | refine And.intro ?_ ?_)), by (repeat' (first | exact rfl | exact trivial | exact sim_refl _ | refine And.intro ?_ ?_)), by (repeat' (first | exact rfl | exact trivial | exact sim_refl _ | refine And.intro ?_ ?_)), ⟨rfl, by rw [h4]; omega⟩, trivial⟩); (case q1 => exact h1); (case q2 => omega))
    · have h2 : ¬ (i : Int) < (g.length : Int) := by omega
      refine sxb hX [.r 15] [] 4000 rfl (by (simp [conjP])) ?_
      refine sxb hX [.r 15] [.F] 4000 rfl (by (simp [conjP, addOP, h2])) ?_
      (refine ss_sub hX (T' := fT_lb l e p) (H' := fH_lb n o l e p) [0, 1, 2, 3, 4] rfl rfl rfl rfl (by (repeat' (first | exact rfl | exact trivial | exact sim_refl _ | refine And.intro ?_ ?_))) (by (repeat' (first | exact rfl | exact trivial | exact sim_refl _ | refine And.intro ?_ ?_))) (by (repeat' (first | exact rfl | exact trivial | exact sim_refl _ | refine And.intro ?_ ?_))) (by (repeat' (first | exact rfl | exact trivial | exact sim_refl _ | refine And.intro ?_ ?_))) ?_; exact tail)
  have hrl := rng_len (cMod 6 l2 + cMod 6 l3).toNat
  have htn : (((cMod 6 l2 + cMod 6 l3).toNat : Nat) : Int) = cMod 6 l2 + cMod 6 l3 := by omega
  refine sxb hX [.r 10] [] 4000 rfl (by (simp [conjP, getH, HE.so, hr, hla, sel0, sel1, e0, e1, o0, o1, hF, hMo])) ?_
  refine sxb hX [.r 10] [.F] 4000 rfl (by (simp [conjP])) ?_
  refine sxb hX [.r 10] [.F] 4000 rfl (by (simp [conjP, addOP, hbl, hrl, htn])) ?_
  (refine ss_sub hX (T' := [(5, .tt), (8, .sbuf 2 1 0 l.length), (9, .niliface), (10, .nilslice), (11, .iface 93 (.ptr 3 0)), (12, .nilslice), (13, .iface 93 (.ptr 4 0)), (14, .sbuf 5 1 0 (rngL (cMod 6 l2 + cMod 6 l3).toNat).length)]) (H' := (fH_lb n o l e p ++ [IB (rngL (cMod 6 l2 + cMod 6 l3).toNat)])) [0, 1, 5, 6, 7, 10] rfl rfl rfl rfl (by (repeat' (first | exact rfl | exact trivial | exact sim_refl _ | refine And.intro ?_ ?_))) (by (repeat' (first | exact rfl | exact trivial | exact sim_refl _ | refine And.intro ?_ ?_))) (by (repeat' (first | exact rfl | exact trivial | exact sim_refl _ | refine And.intro ?_ ?_))) (by (repeat' (first | exact rfl | exact trivial | exact sim_refl _ | refine And.intro ?_ ?_))) ?_; exact t1)

set_option maxHeartbeats 16000000 in
theorem fe_bn_n (l0 l1 l2 l3 : Int) {n cap : Nat} {o : Nat → SetP} {e p : Int} {Wl : List Int} (hla : laOb (cAnd 1 l0) 4 (cAnd 1 l1) 4 (cMod 6 l2) 6 (cMod 6 l3) (mkA (cAnd 1 l0) 4 (cAnd 1 l1) 2 4 (cMod 6 l2) 6 (cMod 6 l3) 2).W (setRow o) n Wl) (hU : InU Wl) (hlen : (Wl.length : Int) = sizeV (cAnd 1 l0) 4 (cAnd 1 l1) 4 (cMod 6 l2) 6 (cMod 6 l3)) (e0 : hsR (cAnd 1 l0) 4 (cAnd 1 l1) 2 4 (cMod 6 l2) 6 (cMod 6 l3) 2 0 Wl.length Wl = .bad e p) (e1 : hsR (cAnd 1 l0) 4 (cAnd 1 l1) 2 4 (cMod 6 l2) 6 (cMod 6 l3) 2 1 Wl.length Wl = .ok none) (eF : frR (.bad e p) (.ok none) = .bad e p) (he : e = 10 ∨ e = 16) (hM : cMod 6 l2 + cMod 6 l3 = 0) :
    Gives Tryd.prog 6 [L4 l0 l1 l2 l3, .slice 0 0 n cap] [stO n o, pinE RTV] (Is .tt [stO n o, pinE RTV]) := by
  skip
  have hr := cfg_rightH l0 l1 l2 l3
  have hsz2 := size_bd hr
  have hm2 := cMod6 l2
  have hm3 := cMod6 l3
  have o0 : lsOb (.bad e p) Wl.length Wl.length Wl := .inl ⟨rfl, rfl, hU⟩
  have o1 : lsOb (.ok none) Wl.length Wl.length Wl := .inl ⟨rfl, rfl, hU⟩
  have hF : fOb (cAnd 1 l0) 4 (cAnd 1 l1) 2 4 (cMod 6 l2) 6 (cMod 6 l3) 2 (.bad e p) Wl.length Wl.length Wl := .inl ⟨hr, rfl, rfl, hU, hlen, by omega, by rw [e0, e1]; exact eF⟩
  have hMk := mk_free hr
  rw [if_pos hM] at hMk
  have hMo : fOb (cAnd 1 l0) 4 (cAnd 1 l1) 2 4 (cMod 6 l2) 6 (cMod 6 l3) 2 (.ok none) (mkA (cAnd 1 l0) 4 (cAnd 1 l1) 2 4 (cMod 6 l2) 6 (cMod 6 l3) 2).W.length (mkA (cAnd 1 l0) 4 (cAnd 1 l1) 2 4 (cMod 6 l2) 6 (cMod 6 l3) 2).W.length (mkA (cAnd 1 l0) 4 (cAnd 1 l1) 2 4 (cMod 6 l2) 6 (cMod 6 l3) 2).W := .inl ⟨hr, rfl, rfl, mkA_in hr, by rw [mkA_len]; omega, by omega, hMk⟩
  have hbl : IntKind.i64.wrap (cMod 6 l2 + cMod 6 l3) = cMod 6 l2 + cMod 6 l3 := wi64 (by omega) (by omega)
  have hbl0 : IntKind.i64.wrap (cMod 6 l2 + cMod 6 l3) = 0 := by rw [hbl, hM]
  have hX := hXHh Wl (.bad e p) (.ok none) (.bad e p) (.ok none) 4
  refine gives_x hX (fn := Tryd.f6) rfl rfl rfl rfl fun ρ w => ?_
  have tail := ft_bn n o (Wl := Wl) (e := e) (p := p) (rM := .ok none) (h0 := 4) he (ρ := ρ) (w := w)
  have t1 : SS (hXHh Wl (.bad e p) (.ok none) (.bad e p) (.ok none) 4) (At ρ w) (Is .tt [stO n o, pinE RTV]) ⟨[], [], Tryd.f6, Tryd.f6.ntmps, [stO n o, pinE RTV], contF Tryd.f6 10 [], [(5, .tt), (8, .nilslice), (9, .iface 93 (.ptr 2 0)), (10, .nilslice), (11, .niliface), (12, .nilslice), (13, .iface 93 (.ptr 3 0)), (14, .nilslice)], fH_bn n o e p⟩ := by
    refine sxb hX [.l] [] 4000 rfl trivial ?_
    refine ss_sub hX (T' := [(5, .tt), (8, .nilslice), (9, .iface 93 (.ptr 2 0)), (10, .nilslice), (11, .niliface), (12, .nilslice), (13, .iface 93 (.ptr 3 0)), (14, .nilslice), (16, .int .i64 0)]) (H' := fH_bn n o e p) [0, 1, 2, 3] rfl rfl rfl rfl (by (repeat' (first | exact rfl | exact trivial | exact sim_refl _ | refine And.intro ?_ ?_))) (by (repeat' (first | exact rfl | exact trivial | exact sim_refl _ | refine And.intro ?_ ?_))) (by (repeat' (first | exact rfl | exact trivial | exact sim_refl _ | refine And.intro ?_ ?_))) (by (repeat' (first | exact rfl | exact trivial | exact sim_refl _ | refine And.intro ?_ ?_))) ?_
    refine ss_loop hX (fun _ : Unit => [(5, .tt), (8, .nilslice), (9, .iface 93 (.ptr 2 0)), (10, .nilslice), (11, .niliface), (12, .nilslice), (13, .iface 93 (.ptr 3 0)), (14, .nilslice), (16, .int .i64 0)]) (fun _ => fH_bn n o e p) (fun _ => True) (fun _ => 0) () trivial ?_
    intro _ _ I2 _
    refine sxb hX [.r 15] [] 4000 rfl (by (simp [conjP])) ?_
    refine sxb hX [.r 15] [.F] 4000 rfl (by (simp [conjP, addOP])) ?_
    (refine ss_sub hX (T' := fT_bn e p) (H' := fH_bn n o e p) [0, 1, 2, 3] rfl rfl rfl rfl (by (repeat' (first | exact rfl | exact trivial | exact sim_refl _ | refine And.intro ?_ ?_))) (by (repeat' (first | exact rfl | exact trivial | exact sim_refl _ | refine And.intro ?_ ?_))) (by (repeat' (first | exact rfl | exact trivial | exact sim_refl _ | refine And.intro ?_ ?_))) (by (repeat' (first | exact rfl | exact trivial | exact sim_refl _ | refine And.intro ?_ ?_))) ?_; exact tail)
  refine sxb hX [.r 10] [] 4000 rfl (by (simp [conjP, getH, HE.so, hr, hla, sel0, sel1, e0, e1, o0, o1, hF, hMo])) ?_
  refine sxb hX [.r 10] [.F] 4000 rfl (by (simp [conjP])) ?_
  refine sxb hX [.r 10] [.F] 4000 rfl (by (simp [conjP, addOP, hbl0])) ?_
  (refine ss_sub hX (T' := [(5, .tt), (8, .nilslice), (9, .iface 93 (.ptr 2 0)), (10, .nilslice), (11, .niliface), (12, .nilslice), (13, .iface 93 (.ptr 3 0)), (14, .nilslice)]) (H' := fH_bn n o e p) [0, 1, 5, 6] rfl rfl rfl rfl (by (repeat' (first | exact rfl | exact trivial | exact sim_refl _ | refine And.intro ?_ ?_))) (by (repeat' (first | exact rfl | exact trivial | exact sim_refl _ | refine And.intro ?_ ?_))) (by (repeat' (first | exact rfl | exact trivial | exact sim_refl _ | refine And.intro ?_ ?_))) (by (repeat' (first | exact rfl | exact trivial | exact sim_refl _ | refine And.intro ?_ ?_))) ?_; exact t1)

set_option maxHeartbeats 16000000 in
theorem fe_bn_g (l0 l1 l2 l3 : Int) {n cap : Nat} {o : Nat → SetP} {e p : Int} {Wl : List Int} (hla : laOb (cAnd 1 l0) 4 (cAnd 1 l1) 4 (cMod 6 l2) 6 (cMod 6 l3) (mkA (cAnd 1 l0) 4 (cAnd 1 l1) 2 4 (cMod 6 l2) 6 (cMod 6 l3) 2).W (setRow o) n Wl) (hU : InU Wl) (hlen : (Wl.length : Int) = sizeV (cAnd 1 l0) 4 (cAnd 1 l1) 4 (cMod 6 l2) 6 (cMod 6 l3)) (e0 : hsR (cAnd 1 l0) 4 (cAnd 1 l1) 2 4 (cMod 6 l2) 6 (cMod 6 l3) 2 0 Wl.length Wl = .bad e p) (e1 : hsR (cAnd 1 l0) 4 (cAnd 1 l1) 2 4 (cMod 6 l2) 6 (cMod 6 l3) 2 1 Wl.length Wl = .ok none) (eF : frR (.bad e p) (.ok none) = .bad e p) (he : e = 10 ∨ e = 16) (hM : ¬ cMod 6 l2 + cMod 6 l3 = 0) :
    Gives Tryd.prog 6 [L4 l0 l1 l2 l3, .slice 0 0 n cap] [stO n o, pinE RTV] (Is .tt [stO n o, pinE RTV]) := by
  skip
  have hr := cfg_rightH l0 l1 l2 l3
  have hsz2 := size_bd hr
  have hm2 := cMod6 l2
  have hm3 := cMod6 l3
  have o0 : lsOb (.bad e p) Wl.length Wl.length Wl := .inl ⟨rfl, rfl, hU⟩
  have o1 : lsOb (.ok none) Wl.length Wl.length Wl := .inl ⟨rfl, rfl, hU⟩
  have hF : fOb (cAnd 1 l0) 4 (cAnd 1 l1) 2 4 (cMod 6 l2) 6 (cMod 6 l3) 2 (.bad e p) Wl.length Wl.length Wl := .inl ⟨hr, rfl, rfl, hU, hlen, by omega, by rw [e0, e1]; exact eF⟩
  have hMk := mk_free hr
  rw [if_neg hM] at hMk
  have hMo : fOb (cAnd 1 l0) 4 (cAnd 1 l1) 2 4 (cMod 6 l2) 6 (cMod 6 l3) 2 (.ok (some (rngL (cMod 6 l2 + cMod 6 l3).toNat))) (mkA (cAnd 1 l0) 4 (cAnd 1 l1) 2 4 (cMod 6 l2) 6 (cMod 6 l3) 2).W.length (mkA (cAnd 1 l0) 4 (cAnd 1 l1) 2 4 (cMod 6 l2) 6 (cMod 6 l3) 2).W.length (mkA (cAnd 1 l0) 4 (cAnd 1 l1) 2 4 (cMod 6 l2) 6 (cMod 6 l3) 2).W := .inl ⟨hr, rfl, rfl, mkA_in hr, by rw [mkA_len]; omega, by omega, hMk⟩
  have hbl : IntKind.i64.wrap (cMod 6 l2 + cMod 6 l3) = cMod 6 l2 + cMod 6 l3 := wi64 (by omega) (by omega)
  skip
  have hX := hXHh Wl (.bad e p) (.ok none) (.bad e p) (.ok (some (rngL (cMod 6 l2 + cMod 6 l3).toNat))) 4
  refine gives_x hX (fn := Tryd.f6) rfl rfl rfl rfl fun ρ w => ?_
  have tail := ft_bn n o (Wl := Wl) (e := e) (p := p) (rM := .ok (some (rngL (cMod 6 l2 + cMod 6 l3).toNat))) (h0 := 4) he (ρ := ρ) (w := w)
  have t1 : SS (hXHh Wl (.bad e p) (.ok none) (.bad e p) (.ok (some (rngL (cMod 6 l2 + cMod 6 l3).toNat))) 4) (At ρ w) (Is .tt [stO n o, pinE RTV]) ⟨[], [], Tryd.f6, Tryd.f6.ntmps, [stO n o, pinE RTV], contF Tryd.f6 10 [], [(5, .tt), (8, .nilslice), (9, .iface 93 (.ptr 2 0)), (10, .nilslice), (11, .niliface), (12, .nilslice), (13, .iface 93 (.ptr 3 0)), (14, .sbuf 4 1 0 (rngL (cMod 6 l2 + cMod 6 l3).toNat).length)], (fH_bn n o e p ++ [IB (rngL (cMod 6 l2 + cMod 6 l3).toNat)])⟩ := by
    refine sxb hX [.l] [] 4000 rfl trivial ?_
    have hrl := rng_len (cMod 6 l2 + cMod 6 l3).toNat
    have htn : (((cMod 6 l2 + cMod 6 l3).toNat : Nat) : Int) = cMod 6 l2 + cMod 6 l3 := by omega
    have hrg := fun (i : Nat) (h : i < (cMod 6 l2 + cMod 6 l3).toNat) => rng_get h
    generalize rngL (cMod 6 l2 + cMod 6 l3).toNat = g at *
    refine ss_sub hX (T' := [(5, .tt), (8, .nilslice), (9, .iface 93 (.ptr 2 0)), (10, .nilslice), (11, .niliface), (12, .nilslice), (13, .iface 93 (.ptr 3 0)), (14, .sbuf 4 1 0 g.length), (16, .int .i64 ((0 : Nat) : Int))]) (H' := (fH_bn n o e p ++ [IB (g)])) [0, 1, 2, 3, 4] rfl rfl rfl rfl (by (repeat' (first | exact rfl | exact trivial | exact sim_refl _ | refine And.intro ?_ ?_))) (by (repeat' (first | exact rfl | exact trivial | exact sim_refl _ | refine And.intro ?_ ?_))) (by (repeat' (first | exact rfl | exact trivial | exact sim_refl _ | refine And.intro ?_ ?_))) (by (repeat' (first | exact rfl | exact trivial | exact sim_refl _ | refine And.intro ?_ ?_))) ?_
    refine ss_loop hX (fun i : Nat => [(5, .tt), (8, .nilslice), (9, .iface 93 (.ptr 2 0)), (10, .nilslice), (11, .niliface), (12, .nilslice), (13, .iface 93 (.ptr 3 0)), (14, .sbuf 4 1 0 g.length), (16, .int .i64 (i : Int))]) (fun _ => (fH_bn n o e p ++ [IB (g)])) (fun i => i ≤ g.length) (fun i => g.length - i) 0 (Nat.zero_le _) ?_
    intro i hi0 I2 back
    have hi : i ≤ g.length := hi0
    by_cases h1 : i < g.length
    · have h2 : (i : Int) < (g.length : Int) := by omega
      have h3 := hrg i (by omega)
      have h4 : IntKind.i64.wrap ((i : Int) + 1) = (i : Int) + 1 := wi64 (by omega) (by omega)
      refine sx hX [] 4000 rfl (by (simp [conjP])) ?_
      refine sx hX [.T] 4000 rfl (by (simp [conjP, h1, h2, cellOff])) ?_
      refine sx hX [.F] 4000 rfl (by (simp [-List.getD_eq_getElem?_getD, -List.length_eq_zero_iff, conjP, addOP, h3, h4, cellOff])) ?_
      (refine back (i + 1) ?q1 ?q2 _ _ _ (sub_of [0, 1, 2, 3, 4] rfl rfl rfl rfl ?tt (by (repeat' (first | exact rfl | exact trivial | exact sim_refl _ | refine And.intro ?_ ?_))) (by (repeat' (first | exact rfl | exact trivial | exact sim_refl _ | refine And.intro ?_ ?_))) (by (repeat' (first | exact rfl | exact trivial | exact sim_refl _ | refine And.intro ?_ ?_)))); (case tt => refine ⟨by (repeat' (first | exact rfl | exact trivial | exact sim_refl _ | refine And.intro ?_ ?_)), by (repeat' (first | exact rfl | exact trivial | exact sim_refl _ | refine And.intro ?_ ?_)), by (repeat' (first | exact rfl | exact trivial | exact sim_refl _ | refine And.intro ?_ ?_)), by (repeat' (first | exact rfl | exact trivial | exact sim_refl _ | refine And.intro ?_ ?_)), by (repeat' (first | exact rfl | exact trivial | exact sim_refl _ | refine And.intro ?_ ?_)), by (repeat' (first | exact rfl | exact trivial | exact sim_refl _ | refine And.intro ?_ ?_)), by (repeat' (first | exact rfl | exact trivial | exact sim_refl _ | refine And.intro ?_ ?_)), by (repeat' (first | exact rfl | exact trivial | exact sim_refl _ | refine And.intro ?_ ?_)), ⟨rfl, by rw [h4]; omega⟩, trivial⟩); (case q1 => exact h1); (case q2 => omega))
    · have h2 : ¬ (i : Int) < (g.length : Int) := by omega
      refine sxb hX [.r 15] [] 4000 rfl (by (simp [conjP])) ?_
      refine sxb hX [.r 15] [.F] 4000 rfl (by (simp [conjP, addOP, h2])) ?_
      (refine ss_sub hX (T' := fT_bn e p) (H' := fH_bn n o e p) [0, 1, 2, 3] rfl rfl rfl rfl (by (repeat' (first | exact rfl | exact trivial | exact sim_refl _ | refine And.intro ?_ ?_))) (by (repeat' (first | exact rfl | exact trivial | exact sim_refl _ | refine And.intro ?_ ?_))) (by (repeat' (first | exact rfl | exact trivial | exact sim_refl _ | refine And.intro ?_ ?_))) (by (repeat' (first | exact rfl | exact trivial | exact sim_refl _ | refine And.intro ?_ ?_))) ?_; exact tail)
  have hrl := rng_len (cMod 6 l2 + cMod 6 l3).toNat
  have htn : (((cMod 6 l2 + cMod 6 l3).toNat : Nat) : Int) = cMod 6 l2 + cMod 6 l3 := by omega
  refine sxb hX [.r 10] [] 4000 rfl (by (simp [conjP, getH, HE.so, hr, hla, sel0, sel1, e0, e1, o0, o1, hF, hMo])) ?_
  refine sxb hX [.r 10] [.F] 4000 rfl (by (simp [conjP])) ?_
  refine sxb hX [.r 10] [.F] 4000 rfl (by (simp [conjP, addOP, hbl, hrl, htn])) ?_
  (refine ss_sub hX (T' := [(5, .tt), (8, .nilslice), (9, .iface 93 (.ptr 2 0)), (10, .nilslice), (11, .niliface), (12, .nilslice), (13, .iface 93 (.ptr 3 0)), (14, .sbuf 4 1 0 (rngL (cMod 6 l2 + cMod 6 l3).toNat).length)]) (H' := (fH_bn n o e p ++ [IB (rngL (cMod 6 l2 + cMod 6 l3).toNat)])) [0, 1, 5, 6, 9] rfl rfl rfl rfl (by (repeat' (first | exact rfl | exact trivial | exact sim_refl _ | refine And.intro ?_ ?_))) (by (repeat' (first | exact rfl | exact trivial | exact sim_refl _ | refine And.intro ?_ ?_))) (by (repeat' (first | exact rfl | exact trivial | exact sim_refl _ | refine And.intro ?_ ?_))) (by (repeat' (first | exact rfl | exact trivial | exact sim_refl _ | refine And.intro ?_ ?_))) ?_; exact t1)

set_option maxHeartbeats 16000000 in
theorem fe_bm_n (l0 l1 l2 l3 : Int) {n cap : Nat} {o : Nat → SetP} {m : List Int} {e p : Int} {Wl : List Int} (hla : laOb (cAnd 1 l0) 4 (cAnd 1 l1) 4 (cMod 6 l2) 6 (cMod 6 l3) (mkA (cAnd 1 l0) 4 (cAnd 1 l1) 2 4 (cMod 6 l2) 6 (cMod 6 l3) 2).W (setRow o) n Wl) (hU : InU Wl) (hlen : (Wl.length : Int) = sizeV (cAnd 1 l0) 4 (cAnd 1 l1) 4 (cMod 6 l2) 6 (cMod 6 l3)) (e0 : hsR (cAnd 1 l0) 4 (cAnd 1 l1) 2 4 (cMod 6 l2) 6 (cMod 6 l3) 2 0 Wl.length Wl = .bad e p) (e1 : hsR (cAnd 1 l0) 4 (cAnd 1 l1) 2 4 (cMod 6 l2) 6 (cMod 6 l3) 2 1 Wl.length Wl = .ok (some m)) (eF : frR (.bad e p) (.ok (some m)) = .bad e p) (he : e = 10 ∨ e = 16) (hM : cMod 6 l2 + cMod 6 l3 = 0) :
    Gives Tryd.prog 6 [L4 l0 l1 l2 l3, .slice 0 0 n cap] [stO n o, pinE RTV] (Is .tt [stO n o, pinE RTV]) := by
  skip
  have hr := cfg_rightH l0 l1 l2 l3
  have hsz2 := size_bd hr
  have hm2 := cMod6 l2
  have hm3 := cMod6 l3
  have o0 : lsOb (.bad e p) Wl.length Wl.length Wl := .inl ⟨rfl, rfl, hU⟩
  have o1 : lsOb (.ok (some m)) Wl.length Wl.length Wl := .inl ⟨rfl, rfl, hU⟩
  have hF : fOb (cAnd 1 l0) 4 (cAnd 1 l1) 2 4 (cMod 6 l2) 6 (cMod 6 l3) 2 (.bad e p) Wl.length Wl.length Wl := .inl ⟨hr, rfl, rfl, hU, hlen, by omega, by rw [e0, e1]; exact eF⟩
  have hMk := mk_free hr
  rw [if_pos hM] at hMk
  have hMo : fOb (cAnd 1 l0) 4 (cAnd 1 l1) 2 4 (cMod 6 l2) 6 (cMod 6 l3) 2 (.ok none) (mkA (cAnd 1 l0) 4 (cAnd 1 l1) 2 4 (cMod 6 l2) 6 (cMod 6 l3) 2).W.length (mkA (cAnd 1 l0) 4 (cAnd 1 l1) 2 4 (cMod 6 l2) 6 (cMod 6 l3) 2).W.length (mkA (cAnd 1 l0) 4 (cAnd 1 l1) 2 4 (cMod 6 l2) 6 (cMod 6 l3) 2).W := .inl ⟨hr, rfl, rfl, mkA_in hr, by rw [mkA_len]; omega, by omega, hMk⟩
  have hbl : IntKind.i64.wrap (cMod 6 l2 + cMod 6 l3) = cMod 6 l2 + cMod 6 l3 := wi64 (by omega) (by omega)
  have hbl0 : IntKind.i64.wrap (cMod 6 l2 + cMod 6 l3) = 0 := by rw [hbl, hM]
  have hX := hXHh Wl (.bad e p) (.ok (some m)) (.bad e p) (.ok none) 4
  refine gives_x hX (fn := Tryd.f6) rfl rfl rfl rfl fun ρ w => ?_
  have tail := ft_bm n o (Wl := Wl) (m := m) (e := e) (p := p) (rM := .ok none) (h0 := 4) he (ρ := ρ) (w := w)
  have t1 : SS (hXHh Wl (.bad e p) (.ok (some m)) (.bad e p) (.ok none) 4) (At ρ w) (Is .tt [stO n o, pinE RTV]) ⟨[], [], Tryd.f6, Tryd.f6.ntmps, [stO n o, pinE RTV], contF Tryd.f6 10 [], [(5, .tt), (8, .nilslice), (9, .iface 93 (.ptr 2 0)), (10, .sbuf 3 1 0 m.length), (11, .niliface), (12, .nilslice), (13, .iface 93 (.ptr 4 0)), (14, .nilslice)], fH_bm n o m e p⟩ := by
    refine sxb hX [.l] [] 4000 rfl trivial ?_
    refine ss_sub hX (T' := [(5, .tt), (8, .nilslice), (9, .iface 93 (.ptr 2 0)), (10, .sbuf 3 1 0 m.length), (11, .niliface), (12, .nilslice), (13, .iface 93 (.ptr 4 0)), (14, .nilslice), (16, .int .i64 0)]) (H' := fH_bm n o m e p) [0, 1, 2, 3, 4] rfl rfl rfl rfl (by (repeat' (first | exact rfl | exact trivial | exact sim_refl _ | refine And.intro ?_ ?_))) (by (repeat' (first | exact rfl | exact trivial | exact sim_refl _ | refine And.intro ?_ ?_))) (by (repeat' (first | exact rfl | exact trivial | exact sim_refl _ | refine And.intro ?_ ?_))) (by (repeat' (first | exact rfl | exact trivial | exact sim_refl _ | refine And.intro ?_ ?_))) ?_
    refine ss_loop hX (fun _ : Unit => [(5, .tt), (8, .nilslice), (9, .iface 93 (.ptr 2 0)), (10, .sbuf 3 1 0 m.length), (11, .niliface), (12, .nilslice), (13, .iface 93 (.ptr 4 0)), (14, .nilslice), (16, .int .i64 0)]) (fun _ => fH_bm n o m e p) (fun _ => True) (fun _ => 0) () trivial ?_
    intro _ _ I2 _
    refine sxb hX [.r 15] [] 4000 rfl (by (simp [conjP])) ?_
    refine sxb hX [.r 15] [.F] 4000 rfl (by (simp [conjP, addOP])) ?_
    (refine ss_sub hX (T' := fT_bm m e p) (H' := fH_bm n o m e p) [0, 1, 2, 3, 4] rfl rfl rfl rfl (by (repeat' (first | exact rfl | exact trivial | exact sim_refl _ | refine And.intro ?_ ?_))) (by (repeat' (first | exact rfl | exact trivial | exact sim_refl _ | refine And.intro ?_ ?_))) (by (repeat' (first | exact rfl | exact trivial | exact sim_refl _ | refine And.intro ?_ ?_))) (by (repeat' (first | exact rfl | exact trivial | exact sim_refl _ | refine And.intro ?_ ?_))) ?_; exact tail)
  refine sxb hX [.r 10] [] 4000 rfl (by (simp [conjP, getH, HE.so, hr, hla, sel0, sel1, e0, e1, o0, o1, hF, hMo])) ?_
  refine sxb hX [.r 10] [.F] 4000 rfl (by (simp [conjP])) ?_
  refine sxb hX [.r 10] [.F] 4000 rfl (by (simp [conjP, addOP, hbl0])) ?_
  (refine ss_sub hX (T' := [(5, .tt), (8, .nilslice), (9, .iface 93 (.ptr 2 0)), (10, .sbuf 3 1 0 m.length), (11, .niliface), (12, .nilslice), (13, .iface 93 (.ptr 4 0)), (14, .nilslice)]) (H' := fH_bm n o m e p) [0, 1, 5, 6, 7] rfl rfl rfl rfl (by (repeat' (first | exact rfl | exact trivial | exact sim_refl _ | refine And.intro ?_ ?_))) (by (repeat' (first | exact rfl | exact trivial | exact sim_refl _ | refine And.intro ?_ ?_))) (by (repeat' (first | exact rfl | exact trivial | exact sim_refl _ | refine And.intro ?_ ?_))) (by (repeat' (first | exact rfl | exact trivial | exact sim_refl _ | refine And.intro ?_ ?_))) ?_; exact t1)

set_option maxHeartbeats 16000000 in
theorem fe_bm_g (l0 l1 l2 l3 : Int) {n cap : Nat} {o : Nat → SetP} {m : List Int} {e p : Int} {Wl : List Int} (hla : laOb (cAnd 1 l0) 4 (cAnd 1 l1) 4 (cMod 6 l2) 6 (cMod 6 l3) (mkA (cAnd 1 l0) 4 (cAnd 1 l1) 2 4 (cMod 6 l2) 6 (cMod 6 l3) 2).W (setRow o) n Wl) (hU : InU Wl) (hlen : (Wl.length : Int) = sizeV (cAnd 1 l0) 4 (cAnd 1 l1) 4 (cMod 6 l2) 6 (cMod 6 l3)) (e0 : hsR (cAnd 1 l0) 4 (cAnd 1 l1) 2 4 (cMod 6 l2) 6 (cMod 6 l3) 2 0 Wl.length Wl = .bad e p) (e1 : hsR (cAnd 1 l0) 4 (cAnd 1 l1) 2 4 (cMod 6 l2) 6 (cMod 6 l3) 2 1 Wl.length Wl = .ok (some m)) (eF : frR (.bad e p) (.ok (some m)) = .bad e p) (he : e = 10 ∨ e = 16) (hM : ¬ cMod 6 l2 + cMod 6 l3 = 0) :
    Gives Tryd.prog 6 [L4 l0 l1 l2 l3, .slice 0 0 n cap] [stO n o, pinE RTV] (Is .tt [stO n o, pinE RTV]) := by
  skip
  have hr := cfg_rightH l0 l1 l2 l3
  have hsz2 := size_bd hr
  have hm2 := cMod6 l2
  have hm3 := cMod6 l3
  have o0 : lsOb (.bad e p) Wl.length Wl.length Wl := .inl ⟨rfl, rfl, hU⟩
  have o1 : lsOb (.ok (some m)) Wl.length Wl.length Wl := .inl ⟨rfl, rfl, hU⟩
  have hF : fOb (cAnd 1 l0) 4 (cAnd 1 l1) 2 4 (cMod 6 l2) 6 (cMod 6 l3) 2 (.bad e p) Wl.length Wl.length Wl := .inl ⟨hr, rfl, rfl, hU, hlen, by omega, by rw [e0, e1]; exact eF⟩
  have hMk := mk_free hr
  rw [if_neg hM] at hMk
  have hMo : fOb (cAnd 1 l0) 4 (cAnd 1 l1) 2 4 (cMod 6 l2) 6 (cMod 6 l3) 2 (.ok (some (rngL (cMod 6 l2 + cMod 6 l3).toNat))) (mkA (cAnd 1 l0) 4 (cAnd 1 l1) 2 4 (cMod 6 l2) 6 (cMod 6 l3) 2).W.length (mkA (cAnd 1 l0) 4 (cAnd 1 l1) 2 4 (cMod 6 l2) 6 (cMod 6 l3) 2).W.length (mkA (cAnd 1 l0) 4 (cAnd 1 l1) 2 4 (cMod 6 l2) 6 (cMod 6 l3) 2).W := .inl ⟨hr, rfl, rfl, mkA_in hr, by rw [mkA_len]; omega, by omega, hMk⟩
  have hbl : IntKind.i64.wrap (cMod 6 l2 + cMod 6 l3) = cMod 6 l2 + cMod 6 l3 := wi64 (by omega) (by omega)
  skip
  have hX := hXHh Wl (.bad e p) (.ok (some m)) (.bad e p) (.ok (some (rngL (cMod 6 l2 + cMod 6 l3).toNat))) 4
  refine gives_x hX (fn := Tryd.f6) rfl rfl rfl rfl fun ρ w => ?_
  have tail := ft_bm n o (Wl := Wl) (m := m) (e := e) (p := p) (rM := .ok (some (rngL (cMod 6 l2 + cMod 6 l3).toNat))) (h0 := 4) he (ρ := ρ) (w := w)
  have t1 : SS (hXHh Wl (.bad e p) (.ok (some m)) (.bad e p) (.ok (some (rngL (cMod 6 l2 + cMod 6 l3).toNat))) 4) (At ρ w) (Is .tt [stO n o, pinE RTV]) ⟨[], [], Tryd.f6, Tryd.f6.ntmps, [stO n o, pinE RTV], contF Tryd.f6 10 [], [(5, .tt), (8, .nilslice), (9, .iface 93 (.ptr 2 0)), (10, .sbuf 3 1 0 m.length), (11, .niliface), (12, .nilslice), (13, .iface 93 (.ptr 4 0)), (14, .sbuf 5 1 0 (rngL (cMod 6 l2 + cMod 6 l3).toNat).length)], (fH_bm n o m e p ++ [IB (rngL (cMod 6 l2 + cMod 6 l3).toNat)])⟩ := by
    refine sxb hX [.l] [] 4000 rfl trivial ?_
    have hrl := rng_len (cMod 6 l2 + cMod 6 l3).toNat
    have htn : (((cMod 6 l2 + cMod 6 l3).toNat : Nat) : Int) = cMod 6 l2 + cMod 6 l3 := by omega
    have hrg := fun (i : Nat) (h : i < (cMod 6 l2 + cMod 6 l3).toNat) => rng_get h
    generalize rngL (cMod 6 l2 + cMod 6 l3).toNat = g at *
    refine ss_sub hX (T' := [(5, .tt), (8, .nilslice), (9, .iface 93 (.ptr 2 0)), (10, .sbuf 3 1 0 m.length), (11, .niliface), (12, .nilslice), (13, .iface 93 (.ptr 4 0)), (14, .sbuf 5 1 0 g.length), (16, .int .i64 ((0 : Nat) : Int))]) (H' := (fH_bm n o m e p ++ [IB (g)])) [0, 1, 2, 3, 4, 5] rfl rfl rfl rfl (by (repeat' (first | exact rfl | exact trivial | exact sim_refl _ | refine And.intro ?_ ?_))) (by (repeat' (first | exact rfl | exact trivial | exact sim_refl _ | refine And.intro ?_ ?_))) (by (repeat' (first | exact rfl | exact trivial | exact sim_refl _ | refine And.intro ?_ ?_))) (by (repeat' (first | exact rfl | exact trivial | exact sim_refl _ | refine And.intro ?_ ?_))) ?_
    refine ss_loop hX (fun i : Nat => [(5, .tt), (8, .nilslice), (9, .iface 93 (.ptr 2 0)), (10, .sbuf 3 1 0 m.length), (11, .niliface), (12, .nilslice), (13, .iface 93 (.ptr 4 0)), (14, .sbuf 5 1 0 g.length), (16, .int .i64 (i : Int))]) (fun _ => (fH_bm n o m e p ++ [IB (g)])) (fun i => i ≤ g.length) (fun i => g.length - i) 0 (Nat.zero_le _) ?_
    intro i hi0 I2 back
    have hi : i ≤ g.length := hi0
    by_cases h1 : i < g.length
    · have h2 : (i : Int) < (g.length : Int) := by omega
      have h3 := hrg i (by omega)
      have h4 : IntKind.i64.wrap ((i : Int) + 1) = (i : Int) + 1 := wi64 (by omega) (by omega)
      refine sx hX [] 4000 rfl (by (simp [conjP])) ?_
      refine sx hX [.T] 4000 rfl (by (simp [conjP, h1, h2, cellOff])) ?_
      refine sx hX [.F] 4000 rfl (by (simp [-List.getD_eq_getElem?_getD, -List.length_eq_zero_iff, conjP, addOP, h3, h4, cellOff])) ?_
      (refine back (i + 1) ?q1 ?q2 _ _ _ (sub_of [0, 1, 2, 3, 4, 5] rfl rfl rfl rfl ?tt (by (repeat' (first | exact rfl | exact trivial | exact sim_refl _ | refine And.intro ?_ ?_))) (by (repeat' (first | exact rfl | exact trivial | exact sim_refl _ | refine And.intro ?_ ?_))) (by (repeat' (first | exact rfl | exact trivial | exact sim_refl _ | refine And.intro ?_ ?_)))); (case tt => refine ⟨by (repeat' (first | exact rfl | exact trivial | exact sim_refl _ | refine And.intro ?_ ?_)), by (repeat' (first | exact rfl | exact trivial | exact sim_refl _ | refine And.intro ?_ ?_)), by (repeat' (first | exact rfl | exact trivial | exact sim_refl _ | refine And.intro ?_ ?_)), by (repeat' (first | exact rfl | exact trivial | exact sim_refl _ | refine And.intro ?_ ?_)), by (repeat' (first | exact rfl | exact trivial | exact sim_refl _ | refine And.intro ?_ ?_)), by (repeat' (first | exact rfl | exact trivial | exact sim_refl _ | refine And.intro ?_ ?_)), by (repeat' (first | exact rfl | exact trivial | exact sim_refl _ | refine And.intro ?_ ?_)), by (repeat' (first | exact rfl | exact trivial | exact sim_refl _ | refine And.intro ?_ ?_)), ⟨rfl, by rw [h4]; omega⟩, trivial⟩); (case q1 => exact h1); (case q2 => omega))
    · have h2 : ¬ (i : Int) < (g.length : Int) := by omega
      refine sxb hX [.r 15] [] 4000 rfl (by (simp [conjP])) ?_
      refine sxb hX [.r 15] [.F] 4000 rfl (by (simp [conjP, addOP, h2])) ?_
      (refine ss_sub hX (T' := fT_bm m e p) (H' := fH_bm n o m e p) [0, 1, 2, 3, 4] rfl rfl rfl rfl (by (repeat' (first | exact rfl | exact trivial | exact sim_refl _ | refine And.intro ?_ ?_))) (by (repeat' (first | exact rfl | exact trivial | exact sim_refl _ | refine And.intro ?_ ?_))) (by (repeat' (first | exact rfl | exact trivial | exact sim_refl _ | refine And.intro ?_ ?_))) (by (repeat' (first | exact rfl | exact trivial | exact sim_refl _ | refine And.intro ?_ ?_))) ?_; exact tail)
  have hrl := rng_len (cMod 6 l2 + cMod 6 l3).toNat
  have htn : (((cMod 6 l2 + cMod 6 l3).toNat : Nat) : Int) = cMod 6 l2 + cMod 6 l3 := by omega
  refine sxb hX [.r 10] [] 4000 rfl (by (simp [conjP, getH, HE.so, hr, hla, sel0, sel1, e0, e1, o0, o1, hF, hMo])) ?_
  refine sxb hX [.r 10] [.F] 4000 rfl (by (simp [conjP])) ?_
  refine sxb hX [.r 10] [.F] 4000 rfl (by (simp [conjP, addOP, hbl, hrl, htn])) ?_
  (refine ss_sub hX (T' := [(5, .tt), (8, .nilslice), (9, .iface 93 (.ptr 2 0)), (10, .sbuf 3 1 0 m.length), (11, .niliface), (12, .nilslice), (13, .iface 93 (.ptr 4 0)), (14, .sbuf 5 1 0 (rngL (cMod 6 l2 + cMod 6 l3).toNat).length)]) (H' := (fH_bm n o m e p ++ [IB (rngL (cMod 6 l2 + cMod 6 l3).toNat)])) [0, 1, 5, 6, 7, 10] rfl rfl rfl rfl (by (repeat' (first | exact rfl | exact trivial | exact sim_refl _ | refine And.intro ?_ ?_))) (by (repeat' (first | exact rfl | exact trivial | exact sim_refl _ | refine And.intro ?_ ?_))) (by (repeat' (first | exact rfl | exact trivial | exact sim_refl _ | refine And.intro ?_ ?_))) (by (repeat' (first | exact rfl | exact trivial | exact sim_refl _ | refine And.intro ?_ ?_))) ?_; exact t1)

set_option maxHeartbeats 16000000 in
theorem fe_bc_n (l0 l1 l2 l3 : Int) {n cap : Nat} {o : Nat → SetP} {e p : Int} {e2 p2 : Int} {Wl : List Int} (hla : laOb (cAnd 1 l0) 4 (cAnd 1 l1) 4 (cMod 6 l2) 6 (cMod 6 l3) (mkA (cAnd 1 l0) 4 (cAnd 1 l1) 2 4 (cMod 6 l2) 6 (cMod 6 l3) 2).W (setRow o) n Wl) (hU : InU Wl) (hlen : (Wl.length : Int) = sizeV (cAnd 1 l0) 4 (cAnd 1 l1) 4 (cMod 6 l2) 6 (cMod 6 l3)) (e0 : hsR (cAnd 1 l0) 4 (cAnd 1 l1) 2 4 (cMod 6 l2) 6 (cMod 6 l3) 2 0 Wl.length Wl = .bad e p) (e1 : hsR (cAnd 1 l0) 4 (cAnd 1 l1) 2 4 (cMod 6 l2) 6 (cMod 6 l3) 2 1 Wl.length Wl = .bad e2 p2) (eF : frR (.bad e p) (.bad e2 p2) = .bad e p) (he : e = 10 ∨ e = 16) (hM : cMod 6 l2 + cMod 6 l3 = 0) :
    Gives Tryd.prog 6 [L4 l0 l1 l2 l3, .slice 0 0 n cap] [stO n o, pinE RTV] (Is .tt [stO n o, pinE RTV]) := by
  skip
  have hr := cfg_rightH l0 l1 l2 l3
  have hsz2 := size_bd hr
  have hm2 := cMod6 l2
  have hm3 := cMod6 l3
  have o0 : lsOb (.bad e p) Wl.length Wl.length Wl := .inl ⟨rfl, rfl, hU⟩
  have o1 : lsOb (.bad e2 p2) Wl.length Wl.length Wl := .inl ⟨rfl, rfl, hU⟩
  have hF : fOb (cAnd 1 l0) 4 (cAnd 1 l1) 2 4 (cMod 6 l2) 6 (cMod 6 l3) 2 (.bad e p) Wl.length Wl.length Wl := .inl ⟨hr, rfl, rfl, hU, hlen, by omega, by rw [e0, e1]; exact eF⟩
  have hMk := mk_free hr
  rw [if_pos hM] at hMk
  have hMo : fOb (cAnd 1 l0) 4 (cAnd 1 l1) 2 4 (cMod 6 l2) 6 (cMod 6 l3) 2 (.ok none) (mkA (cAnd 1 l0) 4 (cAnd 1 l1) 2 4 (cMod 6 l2) 6 (cMod 6 l3) 2).W.length (mkA (cAnd 1 l0) 4 (cAnd 1 l1) 2 4 (cMod 6 l2) 6 (cMod 6 l3) 2).W.length (mkA (cAnd 1 l0) 4 (cAnd 1 l1) 2 4 (cMod 6 l2) 6 (cMod 6 l3) 2).W := .inl ⟨hr, rfl, rfl, mkA_in hr, by rw [mkA_len]; omega, by omega, hMk⟩
  have hbl : IntKind.i64.wrap (cMod 6 l2 + cMod 6 l3) = cMod 6 l2 + cMod 6 l3 := wi64 (by omega) (by omega)
  have hbl0 : IntKind.i64.wrap (cMod 6 l2 + cMod 6 l3) = 0 := by rw [hbl, hM]
  have hX := hXHh Wl (.bad e p) (.bad e2 p2) (.bad e p) (.ok none) 4
  refine gives_x hX (fn := Tryd.f6) rfl rfl rfl rfl fun ρ w => ?_
  have tail := ft_bc n o (Wl := Wl) (e := e) (p := p) (e2 := e2) (p2 := p2) (rM := .ok none) (h0 := 4) he (ρ := ρ) (w := w)
  have t1 : SS (hXHh Wl (.bad e p) (.bad e2 p2) (.bad e p) (.ok none) 4) (At ρ w) (Is .tt [stO n o, pinE RTV]) ⟨[], [], Tryd.f6, Tryd.f6.ntmps, [stO n o, pinE RTV], contF Tryd.f6 10 [], [(5, .tt), (8, .nilslice), (9, .iface 93 (.ptr 2 0)), (10, .nilslice), (11, .iface 93 (.ptr 3 0)), (12, .nilslice), (13, .iface 93 (.ptr 4 0)), (14, .nilslice)], fH_bc n o e p e2 p2⟩ := by
    refine sxb hX [.l] [] 4000 rfl trivial ?_
    refine ss_sub hX (T' := [(5, .tt), (8, .nilslice), (9, .iface 93 (.ptr 2 0)), (10, .nilslice), (11, .iface 93 (.ptr 3 0)), (12, .nilslice), (13, .iface 93 (.ptr 4 0)), (14, .nilslice), (16, .int .i64 0)]) (H' := fH_bc n o e p e2 p2) [0, 1, 2, 3, 4] rfl rfl rfl rfl (by (repeat' (first | exact rfl | exact trivial | exact sim_refl _ | refine And.intro ?_ ?_))) (by (repeat' (first | exact rfl | exact trivial | exact sim_refl _ | refine And.intro ?_ ?_))) (by (repeat' (first | exact rfl | exact trivial | exact sim_refl _ | refine And.intro ?_ ?_))) (by (repeat' (first | exact rfl | exact trivial | exact sim_refl _ | refine And.intro ?_ ?_))) ?_
    refine ss_loop hX (fun _ : Unit => [(5, .tt), (8, .nilslice), (9, .iface 93 (.ptr 2 0)), (10, .nilslice), (11, .iface 93 (.ptr 3 0)), (12, .nilslice), (13, .iface 93 (.ptr 4 0)), (14, .nilslice), (16, .int .i64 0)]) (fun _ => fH_bc n o e p e2 p2) (fun _ => True) (fun _ => 0) () trivial ?_
    intro _ _ I2 _
    refine sxb hX [.r 15] [] 4000 rfl (by (simp [conjP])) ?_
    refine sxb hX [.r 15] [.F] 4000 rfl (by (simp [conjP, addOP])) ?_
    (refine ss_sub hX (T' := fT_bc e p e2 p2) (H' := fH_bc n o e p e2 p2) [0, 1, 2, 3, 4] rfl rfl rfl rfl (by (repeat' (first | exact rfl | exact trivial | exact sim_refl _ | refine And.intro ?_ ?_))) (by (repeat' (first | exact rfl | exact trivial | exact sim_refl _ | refine And.intro ?_ ?_))) (by (repeat' (first | exact rfl | exact trivial | exact sim_refl _ | refine And.intro ?_ ?_))) (by (repeat' (first | exact rfl | exact trivial | exact sim_refl _ | refine And.intro ?_ ?_))) ?_; exact tail)
  refine sxb hX [.r 10] [] 4000 rfl (by (simp [conjP, getH, HE.so, hr, hla, sel0, sel1, e0, e1, o0, o1, hF, hMo])) ?_
  refine sxb hX [.r 10] [.F] 4000 rfl (by (simp [conjP])) ?_
  refine sxb hX [.r 10] [.F] 4000 rfl (by (simp [conjP, addOP, hbl0])) ?_
  (refine ss_sub hX (T' := [(5, .tt), (8, .nilslice), (9, .iface 93 (.ptr 2 0)), (10, .nilslice), (11, .iface 93 (.ptr 3 0)), (12, .nilslice), (13, .iface 93 (.ptr 4 0)), (14, .nilslice)]) (H' := fH_bc n o e p e2 p2) [0, 1, 5, 6, 7] rfl rfl rfl rfl (by (repeat' (first | exact rfl | exact trivial | exact sim_refl _ | refine And.intro ?_ ?_))) (by (repeat' (first | exact rfl | exact trivial | exact sim_refl _ | refine And.intro ?_ ?_))) (by (repeat' (first | exact rfl | exact trivial | exact sim_refl _ | refine And.intro ?_ ?_))) (by (repeat' (first | exact rfl | exact trivial | exact sim_refl _ | refine And.intro ?_ ?_))) ?_; exact t1)

set_option maxHeartbeats 16000000 in
theorem fe_bc_g (l0 l1 l2 l3 : Int) {n cap : Nat} {o : Nat → SetP} {e p : Int} {e2 p2 : Int} {Wl : List Int} (hla : laOb (cAnd 1 l0) 4 (cAnd 1 l1) 4 (cMod 6 l2) 6 (cMod 6 l3) (mkA (cAnd 1 l0) 4 (cAnd 1 l1) 2 4 (cMod 6 l2) 6 (cMod 6 l3) 2).W (setRow o) n Wl) (hU : InU Wl) (hlen : (Wl.length : Int) = sizeV (cAnd 1 l0) 4 (cAnd 1 l1) 4 (cMod 6 l2) 6 (cMod 6 l3)) (e0 : hsR (cAnd 1 l0) 4 (cAnd 1 l1) 2 4 (cMod 6 l2) 6 (cMod 6 l3) 2 0 Wl.length Wl = .bad e p) (e1 : hsR (cAnd 1 l0) 4 (cAnd 1 l1) 2 4 (cMod 6 l2) 6 (cMod 6 l3) 2 1 Wl.length Wl = .bad e2 p2) (eF : frR (.bad e p) (.bad e2 p2) = .bad e p) (he : e = 10 ∨ e = 16) (hM : ¬ cMod 6 l2 + cMod 6 l3 = 0) :
    Gives Tryd.prog 6 [L4 l0 l1 l2 l3, .slice 0 0 n cap] [stO n o, pinE RTV] (Is .tt [stO n o, pinE RTV]) := by
  skip
  have hr := cfg_rightH l0 l1 l2 l3
  have hsz2 := size_bd hr
  have hm2 := cMod6 l2
  have hm3 := cMod6 l3
  have o0 : lsOb (.bad e p) Wl.length Wl.length Wl := .inl ⟨rfl, rfl, hU⟩
  have o1 : lsOb (.bad e2 p2) Wl.length Wl.length Wl := .inl ⟨rfl, rfl, hU⟩
  have hF : fOb (cAnd 1 l0) 4 (cAnd 1 l1) 2 4 (cMod 6 l2) 6 (cMod 6 l3) 2 (.bad e p) Wl.length Wl.length Wl := .inl ⟨hr, rfl, rfl, hU, hlen, by omega, by rw [e0, e1]; exact eF⟩
  have hMk := mk_free hr
  rw [if_neg hM] at hMk
  have hMo : fOb (cAnd 1 l0) 4 (cAnd 1 l1) 2 4 (cMod 6 l2) 6 (cMod 6 l3) 2 (.ok (some (rngL (cMod 6 l2 + cMod 6 l3).toNat))) (mkA (cAnd 1 l0) 4 (cAnd 1 l1) 2 4 (cMod 6 l2) 6 (cMod 6 l3) 2).W.length (mkA (cAnd 1 l0) 4 (cAnd 1 l1) 2 4 (cMod 6 l2) 6 (cMod 6 l3) 2).W.length (mkA (cAnd 1 l0) 4 (cAnd 1 l1) 2 4 (cMod 6 l2) 6 (cMod 6 l3) 2).W := .inl ⟨hr, rfl, rfl, mkA_in hr, by rw [mkA_len]; omega, by omega, hMk⟩
  have hbl : IntKind.i64.wrap (cMod 6 l2 + cMod 6 l3) = cMod 6 l2 + cMod 6 l3 := wi64 (by omega) (by omega)
  skip
  have hX := hXHh Wl (.bad e p) (.bad e2 p2) (.bad e p) (.ok (some (rngL (cMod 6 l2 + cMod 6 l3).toNat))) 4
  refine gives_x hX (fn := Tryd.f6) rfl rfl rfl rfl fun ρ w => ?_
  have tail := ft_bc n o (Wl := Wl) (e := e) (p := p) (e2 := e2) (p2 := p2) (rM := .ok (some (rngL (cMod 6 l2 + cMod 6 l3).toNat))) (h0 := 4) he (ρ := ρ) (w := w)
  have t1 : SS (hXHh Wl (.bad e p) (.bad e2 p2) (.bad e p) (.ok (some (rngL (cMod 6 l2 + cMod 6 l3).toNat))) 4) (At ρ w) (Is .tt [stO n o, pinE RTV]) ⟨[], [], Tryd.f6, Tryd.f6.ntmps, [stO n o, pinE RTV], contF Tryd.f6 10 [], [(5, .tt), (8, .nilslice), (9, .iface 93 (.ptr 2 0)), (10, .nilslice), (11, .iface 93 (.ptr 3 0)), (12, .nilslice), (13, .iface 93 (.ptr 4 0)), (14, .sbuf 5 1 0 (rngL (cMod 6 l2 + cMod 6 l3).toNat).length)], (fH_bc n o e p e2 p2 ++ [IB (rngL (cMod 6 l2 + cMod 6 l3).toNat)])⟩ := by
    refine sxb hX [.l] [] 4000 rfl trivial ?_
    have hrl := rng_len (cMod 6 l2 + cMod 6 l3).toNat
    have htn : (((cMod 6 l2 + cMod 6 l3).toNat : Nat) : Int) = cMod 6 l2 + cMod 6 l3 := by omega
    have hrg := fun (i : Nat) (h : i < (cMod 6 l2 + cMod 6 l3).toNat) => rng_get h
    generalize rngL (cMod 6 l2 + cMod 6 l3).toNat = g at *
    refine ss_sub hX (T' := [(5, .tt), (8, .nilslice), (9, .iface 93 (.ptr 2 0)), (10, .nilslice), (11, .iface 93 (.ptr 3 0)), (12, .nilslice), (13, .iface 93 (.ptr 4 0)), (14, .sbuf 5 1 0 g.length), (16, .int .i64 ((0 : Nat) : Int))]) (H' := (fH_bc n o e p e2 p2 ++ [IB (g)])) [0, 1, 2, 3, 4, 5] rfl rfl rfl rfl (by (repeat' (first | exact rfl | exact trivial | exact sim_refl _ | refine And.intro ?_ ?_))) (by (repeat' (first | exact rfl | exact trivial | exact sim_refl _ | refine And.intro ?_ ?_))) (by (repeat' (first | exact rfl | exact trivial | exact sim_refl _ | refine And.intro ?_ ?_))) (by (repeat' (first | exact rfl | exact trivial | exact sim_refl _ | refine And.intro ?_ ?_))) ?_
    refine ss_loop hX (fun i : Nat => [(5, .tt), (8, .nilslice), (9, .iface 93 (.ptr 2 0)), (10, .nilslice), (11, .iface 93 (.ptr 3 0)), (12, .nilslice), (13, .iface 93 (.ptr 4 0)), (14, .sbuf 5 1 0 g.length), (16, .int .i64 (i : Int))]) (fun _ => (fH_bc n o e p e2 p2 ++ [IB (g)])) (fun i => i ≤ g.length) (fun i => g.length - i) 0 (Nat.zero_le _) ?_
    intro i hi0 I2 back
    have hi : i ≤ g.length := hi0
    by_cases h1 : i < g.length
    · have h2 : (i : Int) < (g.length : Int) := by omega
      have h3 := hrg i (by omega)
      have h4 : IntKind.i64.wrap ((i : Int) + 1) = (i : Int) + 1 := wi64 (by omega) (by omega)
      refine sx hX [] 4000 rfl (by (simp [conjP])) ?_
      refine sx hX [.T] 4000 rfl (by (simp [conjP, h1, h2, cellOff])) ?_
      refine sx hX [.F] 4000 rfl (by (simp [-List.getD_eq_getElem?_getD, -List.length_eq_zero_iff, conjP, addOP, h3, h4, cellOff])) ?_
      (refine back (i + 1) ?q1 ?q2 _ _ _ (sub_of [0, 1, 2, 3, 4, 5] rfl rfl rfl rfl ?tt (by (repeat' (first | exact rfl | exact trivial | exact sim_refl _ | refine And.intro ?_ ?_))) (by (repeat' (first | exact rfl | exact trivial | exact sim_refl _ | refine And.intro ?_ ?_))) (by (repeat' (first | exact rfl | exact trivial | exact sim_refl _ | refine And.intro ?_ ?_)))); (case tt => refine ⟨by (repeat' (first | exact rfl | exact trivial | exact sim_refl _ | refine And.intro ?_ ?_)), by (repeat' (first | exact rfl | exact trivial | exact sim_refl _ | refine And.intro ?_ ?_)), by (repeat' (first | exact rfl | exact trivial | exact sim_refl _ | refine And.intro ?_ ?_)), by (repeat' (first | exact rfl | exact trivial | exact sim_refl _ | refine And.intro ?_ ?_)), by (repeat' (first | exact rfl | exact trivial | exact sim_refl _ | refine And.intro ?_ ?_)), by (repeat' (first | exact rfl | exact trivial | exact sim_refl _ | refine And.intro ?_ ?_)), by (repeat' (first | exact rfl | exact trivial | exact sim_refl _ | refine And.intro ?_ ?_)), by (repeat' (first | exact rfl | exact trivial | exact sim_refl _ | refine And.intro ?_ ?_)), ⟨rfl, by rw [h4]; omega⟩, trivial⟩); (case q1 => exact h1); (case q2 => omega))
    · have h2 : ¬ (i : Int) < (g.length : Int) := by omega
      refine sxb hX [.r 15] [] 4000 rfl (by (simp [conjP])) ?_
      refine sxb hX [.r 15] [.F] 4000 rfl (by (simp [conjP, addOP, h2])) ?_
      (refine ss_sub hX (T' := fT_bc e p e2 p2) (H' := fH_bc n o e p e2 p2) [0, 1, 2, 3, 4] rfl rfl rfl rfl (by (repeat' (first | exact rfl | exact trivial | exact sim_refl _ | refine And.intro ?_ ?_))) (by (repeat' (first | exact rfl | exact trivial | exact sim_refl _ | refine And.intro ?_ ?_))) (by (repeat' (first | exact rfl | exact trivial | exact sim_refl _ | refine And.intro ?_ ?_))) (by (repeat' (first | exact rfl | exact trivial | exact sim_refl _ | refine And.intro ?_ ?_))) ?_; exact tail)
  have hrl := rng_len (cMod 6 l2 + cMod 6 l3).toNat
  have htn : (((cMod 6 l2 + cMod 6 l3).toNat : Nat) : Int) = cMod 6 l2 + cMod 6 l3 := by omega
  refine sxb hX [.r 10] [] 4000 rfl (by (simp [conjP, getH, HE.so, hr, hla, sel0, sel1, e0, e1, o0, o1, hF, hMo])) ?_
  refine sxb hX [.r 10] [.F] 4000 rfl (by (simp [conjP])) ?_
  refine sxb hX [.r 10] [.F] 4000 rfl (by (simp [conjP, addOP, hbl, hrl, htn])) ?_
  (refine ss_sub hX (T' := [(5, .tt), (8, .nilslice), (9, .iface 93 (.ptr 2 0)), (10, .nilslice), (11, .iface 93 (.ptr 3 0)), (12, .nilslice), (13, .iface 93 (.ptr 4 0)), (14, .sbuf 5 1 0 (rngL (cMod 6 l2 + cMod 6 l3).toNat).length)]) (H' := (fH_bc n o e p e2 p2 ++ [IB (rngL (cMod 6 l2 + cMod 6 l3).toNat)])) [0, 1, 5, 6, 7, 10] rfl rfl rfl rfl (by (repeat' (first | exact rfl | exact trivial | exact sim_refl _ | refine And.intro ?_ ?_))) (by (repeat' (first | exact rfl | exact trivial | exact sim_refl _ | refine And.intro ?_ ?_))) (by (repeat' (first | exact rfl | exact trivial | exact sim_refl _ | refine And.intro ?_ ?_))) (by (repeat' (first | exact rfl | exact trivial | exact sim_refl _ | refine And.intro ?_ ?_))) ?_; exact t1)

end Go.Proofs.YtfdkaakllceebaaDoor
