/- FindFinds: the words of a directory: the contract. -/
import Derived.Test.YtkkddjchkkaagaaGreatDoorWordsGone

namespace Go.Proofs.YtkkddjchkkaagaaGreatDoor
open Go Go.Hx
set_option maxRecDepth 8000
section
variable {T : Nat} {R g : Int} {z : List Int} {N cap : Nat} {ρ : Nat → Nat × Nat} {w : World}
theorem sfV_at (t1 : 1 ≤ T) (t8 : T ≤ 8) (r1 : 1 ≤ R) (r4 : R ≤ 4) {k : Int} (k1 : 1 ≤ k) (k2 : k ≤ 20) : startV (T : Int) 4 1 2 4 1 6 0 R k = (sfV T R k : Int) ∧ sfV T R k < T := by
  obtain ⟨a, b⟩ := start_nn (right_FR t1 t8 r1 r4) k1 (show k ≤ 2147483647 by omega)
  unfold sfV
  omega
/-- What is laid is a directory. -/
theorem laid_dk (t1 : 1 ≤ T) (t8 : T ≤ 8) (r1 : 1 ≤ R) (r4 : R ≤ 4) (i : Nat) : DK T (sfV T R) (stK T (sfV T R) (W0V T R) z i).1 (stK T (sfV T R) (W0V T R) z i).2 := st_dk (dk_new t1 t8 r1 r4) i
theorem left_dk (t1 : 1 ≤ T) (t8 : T ≤ 8) (r1 : 1 ≤ R) (r4 : R ≤ 4) (gB : Nat → Bool) : DK T (sfV T R) (leftV T R z gB).1 (leftV T R z gB).2 := rm_end (laid_dk t1 t8 r1 r4 _)
theorem left_len (gB : Nat → Bool) : (leftV T R z gB).2.length ≤ 8 :=
  Nat.le_trans (rm_len _) (Nat.le_trans (st_len _) (by unfold mZ; omega))
set_option maxHeartbeats 4000000 in
theorem words_fn (t1 : 1 ≤ T) (t8 : T ≤ 8) (r1 : 1 ≤ R) (r4 : R ≤ 4) (hN : z.length = N) : Gives Tryz.prog 35 [.agg [.slice 0 0 N cap, .int .i64 g], C9 (T : Int) 4 1 2 4 1 6 0 R] [.obj (.winI .i64 z)] (Is (wdV T R z (gBt g)) (wdL T R z (gBt g))) := by
  have hX := hXWd
  have hr := right_FR t1 t8 r1 r4
  refine gives_x hX (fn := Tryz.f35) rfl rfl rfl rfl fun ρ w => ?_
  refine sxb hX [.l] [] 4000 rfl (by (simp [conjP, hr] <;> omega)) ?_
  refine ss_sub hX (T' := wdT N ⟨0, W0V T R, none⟩) (H' := wdH T R g z N cap (W0V T R) none) [0, 1, 2, 3, 60] rfl rfl rfl rfl ?tt ?hh ?ot ?ok ?_
  case tt => exact clhW
  case hh => exact clhW
  case ot => exact clkW
  case ok => exact clkW
  refine ss_loop hX (wdT N) (fun x => wdH T R g z N cap x.W x.q) (fun x => x.i ≤ N ∧ x.i ≤ 8 ∧ x.W = (stK T (sfV T R) (W0V T R) z x.i).1 ∧ x.q = opL (stK T (sfV T R) (W0V T R) z x.i).2) (fun x => 8 - x.i) _ ⟨Nat.zero_le _, Nat.zero_le _, rfl, rfl⟩ ?_
  intro x ⟨hx1, hx2, hx3, hx4⟩ I back
  have d := laid_dk (z := z) t1 t8 r1 r4 x.i
  have ln : (stK T (sfV T R) (W0V T R) z x.i).2.length ≤ x.i := st_len _
  rw [← hx3] at d
  by_cases hlt : x.i < N ∧ x.i < 8
  · obtain ⟨k1, k2⟩ := cRemB 1 20 (z.getD x.i 0) (by decide) (by decide) (by decide) (by decide)
    obtain ⟨s1, s2⟩ := sfV_at t1 t8 r1 r4 k1 (show cRem 1 20 (z.getD x.i 0) ≤ 20 by omega)
    have hst : stK T (sfV T R) (W0V T R) z (x.i + 1) = insK T (sfV T R) (x.W, lst x.q) (cRem 1 20 (z.getD x.i 0)) := by
      rw [hx3, hx4, opL_lst]; rfl
    have J : ∀ x', x' = insK T (sfV T R) (x.W, lst x.q) (cRem 1 20 (z.getD x.i 0)) → WJ T R g z N cap (gBt g) ρ w I ⟨x.i + 1, x'.1, opL x'.2⟩ := fun x' e =>
      back ⟨x.i + 1, x'.1, opL x'.2⟩ ⟨by show x.i + 1 ≤ N; omega, by show x.i + 1 ≤ 8; omega, by rw [e, ← hst], by rw [e, ← hst]⟩ (by show 8 - (x.i + 1) < 8 - x.i; omega)
    refine sxb hX [.r 4] [] 100 rfl trivial ?_
    refine ss_sw hX (sw_ss hX (cs := []) ?_)
    rcases hq : x.q with _ | l
    · have := wnewn hr t1 t8 d.hl d.bd rfl k1 (by omega) hq hlt.2 (by omega) hN s1 s2 J
      rw [WG, hq] at this
      exact this
    · have el : (stK T (sfV T R) (W0V T R) z x.i).2 = l := by
        have := opL_lst (stK T (sfV T R) (W0V T R) z x.i).2
        rw [← hx4, hq] at this
        exact this.symm
      rw [el] at ln
      have hne : ¬ l = [] := fun e => by rw [hq] at hx4; rw [el, e] at hx4; cases hx4
      rcases hh : hasL l (cRem 1 20 (z.getD x.i 0)) with _ | _
      · have := wnews hr t1 t8 d.hl d.bd rfl k1 (by omega) (by omega) hq hlt.2 (by omega) hN hne s1 s2 hh J
        rw [WG, hq] at this
        exact this
      · have e : insK T (sfV T R) (x.W, lst x.q) (cRem 1 20 (z.getD x.i 0)) = (x.W, lst x.q) := by
          unfold insK
          rw [if_pos (by rw [hq]; exact hh)]
        have J0 := J _ rfl
        rw [e] at J0
        have e2 : opL (lst x.q) = x.q := by rw [hq]; show opL l = some l; exact opL_some hne
        dsimp only at J0
        rw [e2] at J0
        have := whas hr t1 t8 d.hl d.bd rfl k1 (by omega) (by omega) hq hlt.2 (by omega) hN hne hh J0
        rw [WG, hq] at this
        exact this
  · have hi : x.i = mZ z := by unfold mZ; omega
    have hn : (x.i : Int) < (N : Int) → ¬ (x.i : Int) < 8 := fun q q2 => hlt ⟨by omega, by omega⟩
    rw [hi] at hx3 hx4 d ln
    have eW : x.W = (laidV T R z).1 := hx3
    have eq : x.q = opL (laidV T R z).2 := hx4
    have ln8 : (laidV T R z).2.length ≤ 8 := Nat.le_trans ln (by unfold mZ; omega)
    obtain ⟨i, W, q⟩ := x
    dsimp only at eW eq hn
    subst eW
    rcases q with _ | all
    · have e0 : (laidV T R z).2 = [] := by
        have := opL_lst (laidV T R z).2
        rw [← eq] at this
        exact this.symm
      have eL : leftV T R z (gBt g) = ((laidV T R z).1, []) := by unfold leftV; rw [e0]; rfl
      dsimp only [wdT, wdH, slV, slE]
      refine sxb hX [.l] [] 4000 rfl (by (simp [-List.getD_eq_getElem?_getD, -List.length_eq_zero_iff, conjP])) ?_
      refine ss_pb hX [.l] [] 4000 rfl (fun hb0 => ?_) (fun hb0 => ?_)
      · try simp [-List.getD_eq_getElem?_getD, -List.length_eq_zero_iff] at hb0
        refine sxb hX [.l] [.T] 4000 rfl (by (simp [-List.getD_eq_getElem?_getD, -List.length_eq_zero_iff, conjP, addOP, hb0])) ?_
        refine sxb hX [.l] [.F] 4000 rfl (by (simp [-List.getD_eq_getElem?_getD, -List.length_eq_zero_iff, conjP, addOP, hn, hb0])) ?_
        (refine ss_sub hX (T' := [(6, .slice 3 0 (laidV T R z).1.length (laidV T R z).1.length), (7, .nilslice), (14, .nilslice), (15, .int .i64 0)]) (H' := [.obj (.winI .i64 z), .absent, .absent, WO (laidV T R z).1]) [0, 60, 61, 3] rfl rfl rfl rfl ?tt ?hh ?ot ?ok ?jj; (case tt => exact clhW); (case hh => exact clhW); (case ot => exact clkW); (case ok => exact clkW); (case jj => refine ss_loop hX (fun _ : Unit => [(6, .slice 3 0 (laidV T R z).1.length (laidV T R z).1.length), (7, .nilslice), (14, .nilslice), (15, .int .i64 0)]) (fun _ => [.obj (.winI .i64 z), .absent, .absent, WO (laidV T R z).1]) (fun _ => True) (fun _ => 0) () trivial ?_; intro _ _ I2 _; refine sx hX [] 400 rfl (by simp [conjP]) ?_; refine sx hX [.F] 400 rfl (by simp [conjP, addOP]) ?_; unfold wdV wdL; rw [eL]; refine ss_end hX [0, 3, 60] rfl rfl trivial rfl rfl rfl rfl ?t2 ?h2 ?o2 ?k2; (case t2 => exact clhW); (case h2 => exact clhW); (case o2 => exact clkW); (case k2 => exact clkW)))
      · try simp [-List.getD_eq_getElem?_getD, -List.length_eq_zero_iff] at hb0
        refine sxb hX [.l] [.F] 4000 rfl (by (simp [-List.getD_eq_getElem?_getD, -List.length_eq_zero_iff, conjP, addOP, hb0])) ?_
        (refine ss_sub hX (T' := [(6, .slice 3 0 (laidV T R z).1.length (laidV T R z).1.length), (7, .nilslice), (14, .nilslice), (15, .int .i64 0)]) (H' := [.obj (.winI .i64 z), .absent, .absent, WO (laidV T R z).1]) [0, 60, 61, 3] rfl rfl rfl rfl ?tt ?hh ?ot ?ok ?jj; (case tt => exact clhW); (case hh => exact clhW); (case ot => exact clkW); (case ok => exact clkW); (case jj => refine ss_loop hX (fun _ : Unit => [(6, .slice 3 0 (laidV T R z).1.length (laidV T R z).1.length), (7, .nilslice), (14, .nilslice), (15, .int .i64 0)]) (fun _ => [.obj (.winI .i64 z), .absent, .absent, WO (laidV T R z).1]) (fun _ => True) (fun _ => 0) () trivial ?_; intro _ _ I2 _; refine sx hX [] 400 rfl (by simp [conjP]) ?_; refine sx hX [.F] 400 rfl (by simp [conjP, addOP]) ?_; unfold wdV wdL; rw [eL]; refine ss_end hX [0, 3, 60] rfl rfl trivial rfl rfl rfl rfl ?t2 ?h2 ?o2 ?k2; (case t2 => exact clhW); (case h2 => exact clhW); (case o2 => exact clkW); (case k2 => exact clkW)))
    · have e0 : (laidV T R z).2 = all := by
        have := opL_lst (laidV T R z).2
        rw [← eq] at this
        exact this.symm
      rw [e0] at ln8 eq
      have d' : DK T (sfV T R) (laidV T R z).1 all := by rw [← e0]; exact d
      have eL : leftV T R z (gBt g) = rmK T (gBt g) (laidV T R z).1 all all.length := by unfold leftV; rw [e0]
      have inner : ∀ I2 i q W, i ≤ all.length → W = (rmK T (gBt g) (laidV T R z).1 all i).1 → q = opL (rmK T (gBt g) (laidV T R z).1 all i).2 → (∀ q' W', i < all.length → W' = (rmK T (gBt g) (laidV T R z).1 all (i + 1)).1 → q' = opL (rmK T (gBt g) (laidV T R z).1 all (i + 1)).2 → KJ4 T R g z N cap ρ w I2 W' all q' (i + 1)) → KG4 T R g z N cap ρ w I2 W all q i := fun I2 i q W hi hW hq back => by
        have dd := rm_dk (g := gBt g) d' i hi
        have lq : (rmK T (gBt g) (laidV T R z).1 all i).2.length ≤ i := rm_len _
        rw [← hW] at dd
        by_cases hil : i < all.length
        · by_cases hg : ibits .and .i64 (g.fdiv (2 ^ (min (IntKind.u64.wrap (i : Int)).toNat IntKind.i64.bits))) 1 = 0
          · have e1 : rmK T (gBt g) (laidV T R z).1 all (i + 1) = ((rmK T (gBt g) (laidV T R z).1 all i).1, (rmK T (gBt g) (laidV T R z).1 all i).2 ++ [all.getD i 0]) := by
              show (if gBt g i = true then _ else _) = _
              rw [if_pos (show gBt g i = true from decide_eq_true hg)]
            have J := back (some ((rmK T (gBt g) (laidV T R z).1 all i).2 ++ [all.getD i 0])) W hil (by rw [e1]; exact hW) (by rw [e1]; exact (opL_app _ _).symm)
            rcases hq2 : q with _ | l
            · have : (rmK T (gBt g) (laidV T R z).1 all i).2 = [] := by
                have := opL_lst (rmK T (gBt g) (laidV T R z).1 all i).2
                rw [← hq, hq2] at this
                exact this.symm
              rw [this] at J
              exact r4kn hr t1 t8 dd.hl dd.bd hil ln8 hg J
            · have : (rmK T (gBt g) (laidV T R z).1 all i).2 = l := by
                have := opL_lst (rmK T (gBt g) (laidV T R z).1 all i).2
                rw [← hq, hq2] at this
                exact this.symm
              rw [this] at J lq
              exact r4ks hr t1 t8 dd.hl dd.bd (by omega) hil ln8 hg J
          · have e1 : rmK T (gBt g) (laidV T R z).1 all (i + 1) = (delK T (rmK T (gBt g) (laidV T R z).1 all i).1 (all.getD i 0), (rmK T (gBt g) (laidV T R z).1 all i).2) := by
              show (if gBt g i = true then _ else _) = _
              rw [if_neg (show ¬ gBt g i = true by unfold gBt; rw [decide_eq_false hg]; decide)]
            exact r4d hr t1 t8 dd.hl dd.bd dd hil ln8 hg (back q _ hil (by rw [e1, hW]) (by rw [e1]; exact hq))
        · have hie : i = all.length := by omega
          subst hie
          exact r4e (_l := []) (by rw [eL]; exact hW) (by rw [eL]; exact hq) rfl
      dsimp only [wdT, wdH, slV, slE]
      refine sxb hX [.l] [] 4000 rfl (by (simp [-List.getD_eq_getElem?_getD, -List.length_eq_zero_iff, conjP])) ?_
      refine ss_pb hX [.l] [] 4000 rfl (fun hb0 => ?_) (fun hb0 => ?_)
      · try simp [-List.getD_eq_getElem?_getD, -List.length_eq_zero_iff] at hb0
        refine sxb hX [.l] [.T] 4000 rfl (by (simp [-List.getD_eq_getElem?_getD, -List.length_eq_zero_iff, conjP, addOP, hb0])) ?_
        refine sxb hX [.l] [.F] 4000 rfl (by (simp [-List.getD_eq_getElem?_getD, -List.length_eq_zero_iff, conjP, addOP, hn, hb0])) ?_
        (refine ss_sub hX (T' := wdT4 (laidV T R z).1 all none 0) (H' := wdH4 T R g z N cap (laidV T R z).1 all none) [0, 1, 2, 3, 4, 60] rfl rfl rfl rfl ?tt ?hh ?ot ?ok ?jj; (case tt => exact clhW); (case hh => exact clhW); (case ot => exact clkW); (case ok => exact clkW); (case jj => refine ss_loop hX (fun x : Nat × List Int × Option (List Int) => wdT4 x.2.1 all x.2.2 x.1) (fun x => wdH4 T R g z N cap x.2.1 all x.2.2) (fun x => x.1 ≤ all.length ∧ x.2.1 = (rmK T (gBt g) (laidV T R z).1 all x.1).1 ∧ x.2.2 = opL (rmK T (gBt g) (laidV T R z).1 all x.1).2) (fun x => all.length - x.1) (0, (laidV T R z).1, none) ⟨Nat.zero_le _, rfl, rfl⟩ ?_; rintro ⟨i, W, q⟩ ⟨ha, hW, hq⟩ I2 back; refine sxb hX [.r 20] [] 100 rfl trivial ?_; exact ss_sw hX (sw_ss hX (cs := []) (inner I2 i q W ha hW hq (fun q' W' hi hW' hq' => back (i + 1, W', q') ⟨hi, hW', hq'⟩ (by show all.length - (i + 1) < all.length - i; omega))))))
      · try simp [-List.getD_eq_getElem?_getD, -List.length_eq_zero_iff] at hb0
        refine sxb hX [.l] [.F] 4000 rfl (by (simp [-List.getD_eq_getElem?_getD, -List.length_eq_zero_iff, conjP, addOP, hb0])) ?_
        (refine ss_sub hX (T' := wdT4 (laidV T R z).1 all none 0) (H' := wdH4 T R g z N cap (laidV T R z).1 all none) [0, 1, 2, 3, 4, 60] rfl rfl rfl rfl ?tt ?hh ?ot ?ok ?jj; (case tt => exact clhW); (case hh => exact clhW); (case ot => exact clkW); (case ok => exact clkW); (case jj => refine ss_loop hX (fun x : Nat × List Int × Option (List Int) => wdT4 x.2.1 all x.2.2 x.1) (fun x => wdH4 T R g z N cap x.2.1 all x.2.2) (fun x => x.1 ≤ all.length ∧ x.2.1 = (rmK T (gBt g) (laidV T R z).1 all x.1).1 ∧ x.2.2 = opL (rmK T (gBt g) (laidV T R z).1 all x.1).2) (fun x => all.length - x.1) (0, (laidV T R z).1, none) ⟨Nat.zero_le _, rfl, rfl⟩ ?_; rintro ⟨i, W, q⟩ ⟨ha, hW, hq⟩ I2 back; refine sxb hX [.r 20] [] 100 rfl trivial ?_; exact ss_sw hX (sw_ss hX (cs := []) (inner I2 i q W ha hW hq (fun q' W' hi hW' hq' => back (i + 1, W', q') ⟨hi, hW', hq'⟩ (by show all.length - (i + 1) < all.length - i; omega))))))
set_option maxHeartbeats 4000000 in
theorem words_nil {a : Option Addr} (t1 : 1 ≤ T) (t8 : T ≤ 8) (r1 : 1 ≤ R) (r4 : R ≤ 4) : Gives Tryz.prog 35 [.agg [.raw (.slice a 0 0), .int .i64 g], C9 (T : Int) 4 1 2 4 1 6 0 R] [] (Is (.tup [.slice 0 0 (W0V T R).length (W0V T R).length, .nilslice]) [WO (W0V T R)]) := by
  have hX := hXWd
  have hr := right_FR t1 t8 r1 r4
  refine gives_x hX (fn := Tryz.f35) rfl rfl rfl rfl fun ρ w => ?_
  refine sxb hX [.l] [] 4000 rfl (by (simp [conjP, hr] <;> omega)) ?_
  refine ss_sub hX (T' := [(2, .ptr 0 0), (6, .slice 1 0 (W0V T R).length (W0V T R).length), (7, .nilslice), (8, .int .i64 0)]) (H' := [dirW (.raw (.slice a 0 0)) g, WO (W0V T R)]) [0, 2] rfl rfl rfl rfl ?tt ?hh ?ot ?ok ?_
  case tt => exact clhW
  case hh => exact clhW
  case ot => exact clkW
  case ok => exact clkW
  refine ss_loop hX (fun _ : Unit => [(2, .ptr 0 0), (6, .slice 1 0 (W0V T R).length (W0V T R).length), (7, .nilslice), (8, .int .i64 0)]) (fun _ => [dirW (.raw (.slice a 0 0)) g, WO (W0V T R)]) (fun _ => True) (fun _ => 0) () trivial ?_
  intro _ _ I _
  refine sxb hX [.l] [] 4000 rfl (by simp [conjP]) ?_
  refine sxb hX [.l] [.F] 4000 rfl (by simp [conjP, addOP]) ?_
  refine ss_sub hX (T' := [(6, .slice 0 0 (W0V T R).length (W0V T R).length), (7, .nilslice), (14, .nilslice), (15, .int .i64 0)]) (H' := [WO (W0V T R)]) [1] rfl rfl rfl rfl ?t1 ?h1 ?o1 ?k1 ?_
  case t1 => exact clhW
  case h1 => exact clhW
  case o1 => exact clkW
  case k1 => exact clkW
  refine ss_loop hX (fun _ : Unit => [(6, .slice 0 0 (W0V T R).length (W0V T R).length), (7, .nilslice), (14, .nilslice), (15, .int .i64 0)]) (fun _ => [WO (W0V T R)]) (fun _ => True) (fun _ => 0) () trivial ?_
  intro _ _ I2 _
  refine sx hX [] 400 rfl (by simp [conjP]) ?_
  refine sx hX [.F] 400 rfl (by simp [conjP, addOP]) ?_
  refine ss_end hX [0] rfl rfl trivial rfl rfl rfl rfl ?t2 ?h2 ?o2 ?k2
  case t2 => exact clhW
  case h2 => exact clhW
  case o2 => exact clkW
  case k2 => exact clkW
end
def wordsS : Hx.Spec := fun args H => match args with
  | [.agg [.slice h 0 N _, .int .i64 g], .agg [.int .i64 a0, .int .i64 a1, .int .i64 a2, .int .i64 a3, .int .i64 a4, .int .i64 a5, .int .i64 a6, .int .i64 a7, .int .i64 a8]] =>
    match getH H h, nums[H.length]?, nums[H.length + 1]? with
    | some (.winI .i64 z), some n0, some n1 => some ([N = z.length, 1 ≤ a0, a0 ≤ 8, a1 = 4, a2 = 1, a3 = 2, a4 = 4, a5 = 1, a6 = 6, a7 = 0, 1 ≤ a8, a8 ≤ 4],
        .tup [.slice n0 0 (leftV a0.toNat a8 z (gBt g)).1.length (leftV a0.toNat a8 z (gBt g)).1.length, slV (opL (leftV a0.toNat a8 z (gBt g)).2) n1], H ++ [WO (leftV a0.toNat a8 z (gBt g)).1, slE (opL (leftV a0.toNat a8 z (gBt g)).2) .i64 3])
    | _, _, _ => none
  | [.agg [.raw (.slice _ 0 0), .int .i64 _], .agg [.int .i64 a0, .int .i64 a1, .int .i64 a2, .int .i64 a3, .int .i64 a4, .int .i64 a5, .int .i64 a6, .int .i64 a7, .int .i64 a8]] =>
    match nums[H.length]? with
    | some n0 => some ([1 ≤ a0, a0 ≤ 8, a1 = 4, a2 = 1, a3 = 2, a4 = 4, a5 = 1, a6 = 6, a7 = 0, 1 ≤ a8, a8 ≤ 4],
        .tup [.slice n0 0 (W0V a0.toNat a8).length (W0V a0.toNat a8).length, .nilslice], H ++ [WO (W0V a0.toNat a8)])
    | none => none
  | _ => none
theorem wordsS_ok {args : List SV} {H : List HE} {ob : List Prop} {V : SV} {L : List HE} (hs : wordsS args H = some (ob, V, L)) (ho : AllP ob) : Gives Tryz.prog 35 args H (Is V L) := by
  unfold wordsS at hs
  split at hs
  · rename_i _ h N cap g a0 a1 a2 a3 a4 a5 a6 a7 a8
    split at hs
    · rename_i _ _ _ z n0 n1 hg e0 e1
      have e0' := nums_get _ _ e0
      have e1' := nums_get _ _ e1
      subst e0'; subst e1'
      simp only [Option.some.injEq, Prod.mk.injEq] at hs
      obtain ⟨rfl, rfl, rfl⟩ := hs
      simp only [AllP, List.mem_cons, List.not_mem_nil, or_false, forall_eq_or_imp, forall_eq] at ho
      obtain ⟨o0, o1, o2, rfl, rfl, rfl, rfl, rfl, rfl, rfl, o3, o4⟩ := ho
      obtain ⟨T, rfl⟩ : ∃ T : Nat, a0 = (T : Int) := ⟨a0.toNat, by omega⟩
      have := frame1 (N := [WO (leftV T a8 z (gBt g)).1, slE (opL (leftV T a8 z (gBt g)).2) .i64 3]) (H := H) (h0 := h) ⟨_, hTE⟩ (words_fn (T := T) (R := a8) (g := g) (cap := cap) (by omega) (by omega) o3 o4 o0.symm) rfl rfl rfl hg (by cases opL (leftV T a8 z (gBt g)).2 <;> rfl)
      have e : SO.ren (nm [h] H) (SO.winI .i64 z) = SO.winI .i64 z := rfl
      rw [e, set_self hg] at this
      have e2 : (wdV T a8 z (gBt g)).ren (nm [h] H) = .tup [.slice H.length 0 (leftV T a8 z (gBt g)).1.length (leftV T a8 z (gBt g)).1.length, slV (opL (leftV T a8 z (gBt g)).2) (H.length + 1)] := by
        unfold wdV
        cases opL (leftV T a8 z (gBt g)).2 <;> rfl
      rw [e2] at this
      have e3 : [WO (leftV T a8 z (gBt g)).1, slE (opL (leftV T a8 z (gBt g)).2) .i64 3].map (HE.ren (nm [h] H)) = [WO (leftV T a8 z (gBt g)).1, slE (opL (leftV T a8 z (gBt g)).2) .i64 3] := by
        simp only [List.map_cons, List.map_nil, ren_slE]
        rfl
      rw [e3] at this
      exact this
    · simp at hs
  · rename_i _ a g a0 a1 a2 a3 a4 a5 a6 a7 a8
    split at hs
    · rename_i _ n0 e0
      have e0' := nums_get _ _ e0
      subst e0'
      simp only [Option.some.injEq, Prod.mk.injEq] at hs
      obtain ⟨rfl, rfl, rfl⟩ := hs
      simp only [AllP, List.mem_cons, List.not_mem_nil, or_false, forall_eq_or_imp, forall_eq] at ho
      obtain ⟨o1, o2, rfl, rfl, rfl, rfl, rfl, rfl, rfl, o3, o4⟩ := ho
      obtain ⟨T, rfl⟩ : ∃ T : Nat, a0 = (T : Int) := ⟨a0.toNat, by omega⟩
      have := frame0 (H := H) ⟨_, hTE⟩ (words_nil (T := T) (R := a8) (g := g) (a := a) (by omega) (by omega) o3 o4) rfl rfl
      exact this
    · simp at hs
  · simp at hs
end Go.Proofs.YtkkddjchkkaagaaGreatDoor
