/- FindFinds: the words of a directory: what is taken away. -/
import Derived.Test.YtkkddjchkkaagaaGreatDoorWordsLoop

namespace Go.Proofs.YtkkddjchkkaagaaGreatDoor
open Go Go.Hx
set_option maxRecDepth 8000
/-- Is a key kept? -/
def gBt (g : Int) (i : Nat) : Bool := decide (ibits .and .i64 (g.fdiv (2 ^ (min (IntKind.u64.wrap (i : Int)).toNat IntKind.i64.bits))) 1 = 0)
def wdT4 (W all : List Int) (q : Option (List Int)) (i : Nat) : List (Nat × SV) := [(2, .ptr 1 0), (3, .ptr 2 0), (6, .slice 3 0 W.length W.length), (7, .sbuf 4 1 0 all.length), (14, slV q 5), (15, .int .i64 (i : Int))]
def wdT6 (W all : List Int) (q : Option (List Int)) (i a : Nat) : List (Nat × SV) := [(2, .ptr 1 0), (3, .ptr 2 0), (6, .slice 3 0 W.length W.length), (7, .sbuf 4 1 0 all.length), (14, slV q 5), (15, .int .i64 (i : Int)), (16, .int .i64 (a : Int))]
def wdH4 (T : Nat) (R g : Int) (z : List Int) (N cap : Nat) (W all : List Int) (q : Option (List Int)) : List HE := [.obj (.winI .i64 z), dirW (.slice 0 0 N cap) g, cfW T R, WO W, .obj (.buf .i64 all 1 3), slE q .i64 3]
theorem opL_some {l : List Int} (h : ¬ l = []) : opL l = some l := by unfold opL; rw [if_neg h]
section
variable {T : Nat} {R g : Int} {z : List Int} {N cap : Nat} {ρ : Nat → Nat × Nat} {w : World} {W all : List Int} {q : Option (List Int)} {i a : Nat} {I I2 : Act → World → Prop}
abbrev KJ4 (T : Nat) (R g : Int) (z : List Int) (N cap : Nat) (ρ : Nat → Nat × Nat) (w : World) (I : Act → World → Prop) (W all : List Int) (q : Option (List Int)) (i : Nat) : Prop :=
  ∀ cs TT H, Sub (FEnv Tryz.prog XWd.TE hXWd.te Tryz.f35 Tryz.f35.ntmps [.obj (.winI .i64 z)] (Is (wdV T R z (gBt g)) (wdL T R z (gBt g))) ρ w) TT H (wdT4 W all q i) (wdH4 T R g z N cap W all q) → SS hXWd (At ρ w) (Is (wdV T R z (gBt g)) (wdL T R z (gBt g))) ⟨cs, [], Tryz.f35, Tryz.f35.ntmps, [.obj (.winI .i64 z)], downLq (contF Tryz.f35 20 [I]), TT, H⟩
abbrev KJ6 (T : Nat) (R g : Int) (z : List Int) (N cap : Nat) (ρ : Nat → Nat × Nat) (w : World) (I I2 : Act → World → Prop) (W all : List Int) (q : Option (List Int)) (i a : Nat) : Prop :=
  ∀ cs TT H, Sub (FEnv Tryz.prog XWd.TE hXWd.te Tryz.f35 Tryz.f35.ntmps [.obj (.winI .i64 z)] (Is (wdV T R z (gBt g)) (wdL T R z (gBt g))) ρ w) TT H (wdT6 W all q i a) (wdH4 T R g z N cap W all q) → SS hXWd (At ρ w) (Is (wdV T R z (gBt g)) (wdL T R z (gBt g))) ⟨cs, [], Tryz.f35, Tryz.f35.ntmps, [.obj (.winI .i64 z)], downLq (contF Tryz.f35 25 [I, I2]), TT, H⟩
abbrev KG4 (T : Nat) (R g : Int) (z : List Int) (N cap : Nat) (ρ : Nat → Nat × Nat) (w : World) (I : Act → World → Prop) (W all : List Int) (q : Option (List Int)) (i : Nat) : Prop :=
  SS hXWd (At ρ w) (Is (wdV T R z (gBt g)) (wdL T R z (gBt g))) ⟨[], [], Tryz.f35, Tryz.f35.ntmps, [.obj (.winI .i64 z)], contF Tryz.f35 20 [I], wdT4 W all q i, wdH4 T R g z N cap W all q⟩
abbrev KG6 (T : Nat) (R g : Int) (z : List Int) (N cap : Nat) (ρ : Nat → Nat × Nat) (w : World) (I I2 : Act → World → Prop) (W all : List Int) (q : Option (List Int)) (i a : Nat) : Prop :=
  SS hXWd (At ρ w) (Is (wdV T R z (gBt g)) (wdL T R z (gBt g))) ⟨[], [], Tryz.f35, Tryz.f35.ntmps, [.obj (.winI .i64 z)], contF Tryz.f35 25 [I, I2], wdT6 W all q i a, wdH4 T R g z N cap W all q⟩
set_option maxHeartbeats 4000000 in
theorem r6s (hr : rightB (T : Int) 4 1 2 4 1 6 0 R = true) (t1 : 1 ≤ T) (t8 : T ≤ 8) (hl : W.length = 11 + 10 * T) (hbd : ∀ j, 0 ≤ W.getD j 0 ∧ W.getD j 0 < 18446744073709551616) (ha : a < T) (hi : i < all.length) (_hal : all.length ≤ 8) (he : kyW (W.getD (fP a) 0) = all.getD i 0)
    (J : KJ6 T R g z N cap ρ w I I2 (W.set (fP a) 1) all q i (a + 1)) : KG6 T R g z N cap ρ w I I2 W all q i a := by
  have hX := hXWd
  have en := fent_at (R := R) ha
  have el := fP_lt' hl ha
  have h1 : (a : Int) < (T : Int) := by omega
  have b0 := (hbd (fP a)).1
  have b1 := (hbd (fP a)).2
  have tsz : (XWd.TE 3).size = 1 := rfl
  have ez : cellOff i 1 0 = i := by simp [cellOff]
  have ewa : IntKind.i64.wrap ((a : Int) + 1) = ((a + 1 : Nat) : Int) := by rw [wi64 (by omega) (by omega)]; omega
  dsimp only [KG6, wdT6, wdH4]
  unfold KJ6 at J
  dsimp only [wdT6, wdH4] at J
  refine sx hX [] 4000 rfl (by (simp [-List.getD_eq_getElem?_getD, -List.length_eq_zero_iff, conjP])) ?_
  refine sx hX [.T] 4000 rfl (by (simp [-List.getD_eq_getElem?_getD, -List.length_eq_zero_iff, conjP, getH, HE.so, h1, en, el, b0, b1, hi, hr, ez, Int.toNat_natCast] <;> (first | omega | ((repeat' (refine And.intro ?_ ?_)) <;> (first | omega | exact decide_eq_false (by omega) | exact decide_eq_true (by omega)))))) ?_
  refine sx hX [.T] 4000 rfl (by (simp [-List.getD_eq_getElem?_getD, -List.length_eq_zero_iff, conjP, en, el, he, hr, ez, Int.toNat_natCast] <;> (first | omega | ((repeat' (refine And.intro ?_ ?_)) <;> (first | omega | exact decide_eq_false (by omega) | exact decide_eq_true (by omega)))))) ?_
  (refine J _ _ _ (sub_of [0, 1, 2, 3, 4, 5] rfl rfl rfl rfl ?tt ?hh ?ot ?ok); (case tt => (try simp only [ewa]); exact clhW); (case hh => (try simp only [en, Int.toNat_natCast, Nat.add_zero]); exact clhW); (case ot => exact clkW); (case ok => exact clkW))
set_option maxHeartbeats 4000000 in
theorem r6n (hr : rightB (T : Int) 4 1 2 4 1 6 0 R = true) (t1 : 1 ≤ T) (t8 : T ≤ 8) (hl : W.length = 11 + 10 * T) (hbd : ∀ j, 0 ≤ W.getD j 0 ∧ W.getD j 0 < 18446744073709551616) (ha : a < T) (hi : i < all.length) (_hal : all.length ≤ 8) (he : kyW (W.getD (fP a) 0) ≠ all.getD i 0)
    (J : KJ6 T R g z N cap ρ w I I2 W all q i (a + 1)) : KG6 T R g z N cap ρ w I I2 W all q i a := by
  have hX := hXWd
  have en := fent_at (R := R) ha
  have el := fP_lt' hl ha
  have h1 : (a : Int) < (T : Int) := by omega
  have b0 := (hbd (fP a)).1
  have b1 := (hbd (fP a)).2
  have tsz : (XWd.TE 3).size = 1 := rfl
  have ez : cellOff i 1 0 = i := by simp [cellOff]
  have ewa : IntKind.i64.wrap ((a : Int) + 1) = ((a + 1 : Nat) : Int) := by rw [wi64 (by omega) (by omega)]; omega
  dsimp only [KG6, wdT6, wdH4]
  unfold KJ6 at J
  dsimp only [wdT6, wdH4] at J
  refine sx hX [] 4000 rfl (by (simp [-List.getD_eq_getElem?_getD, -List.length_eq_zero_iff, conjP])) ?_
  refine sx hX [.T] 4000 rfl (by (simp [-List.getD_eq_getElem?_getD, -List.length_eq_zero_iff, conjP, getH, HE.so, h1, en, el, b0, b1, hi, hr, ez, Int.toNat_natCast] <;> (first | omega | ((repeat' (refine And.intro ?_ ?_)) <;> (first | omega | exact decide_eq_false (by omega) | exact decide_eq_true (by omega)))))) ?_
  refine sx hX [.F] 4000 rfl (by (simp [-List.getD_eq_getElem?_getD, -List.length_eq_zero_iff, conjP, addOP, en, he, ez, Int.toNat_natCast])) ?_
  (refine J _ _ _ (sub_of [0, 1, 2, 3, 4, 5] rfl rfl rfl rfl ?tt ?hh ?ot ?ok); (case tt => (try simp only [ewa]); exact clhW); (case hh => (try simp only [en, Int.toNat_natCast, Nat.add_zero]); exact clhW); (case ot => exact clkW); (case ok => exact clkW))
set_option maxHeartbeats 4000000 in
theorem r6e (_hr : rightB (T : Int) 4 1 2 4 1 6 0 R = true) (_t1 : 1 ≤ T) (_t8 : T ≤ 8) (_hl : W.length = 11 + 10 * T) (_hbd : ∀ j, 0 ≤ W.getD j 0 ∧ W.getD j 0 < 18446744073709551616) (hi : i < all.length) (hal : all.length ≤ 8) (J : KJ4 T R g z N cap ρ w I W all q (i + 1)) : KG6 T R g z N cap ρ w I I2 W all q i T := by
  have hX := hXWd
  have h1 : ¬ (T : Int) < (T : Int) := by omega
  have ewi : IntKind.i64.wrap ((i : Int) + 1) = ((i + 1 : Nat) : Int) := by rw [wi64 (by omega) (by omega)]; omega
  dsimp only [KG6, wdT6, wdH4]
  unfold KJ4 at J
  dsimp only [wdT4, wdH4] at J
  refine sx hX [] 4000 rfl (by (simp [-List.getD_eq_getElem?_getD, -List.length_eq_zero_iff, conjP])) ?_
  refine sx hX [.F] 4000 rfl (by (simp [-List.getD_eq_getElem?_getD, -List.length_eq_zero_iff, conjP, addOP, h1])) ?_
  (refine J _ _ _ (sub_of [0, 1, 2, 3, 4, 5] rfl rfl rfl rfl ?tt ?hh ?ot ?ok); (case tt => (try simp only [ewi]); exact clhW); (case hh => exact clhW); (case ot => exact clkW); (case ok => exact clkW))
set_option maxHeartbeats 4000000 in
theorem r4kn (_hr : rightB (T : Int) 4 1 2 4 1 6 0 R = true) (_t1 : 1 ≤ T) (_t8 : T ≤ 8) (_hl : W.length = 11 + 10 * T) (_hbd : ∀ j, 0 ≤ W.getD j 0 ∧ W.getD j 0 < 18446744073709551616) (hi : i < all.length) (hal : all.length ≤ 8) (hg : ibits .and .i64 (g.fdiv (2 ^ (min (IntKind.u64.wrap (i : Int)).toNat IntKind.i64.bits))) 1 = 0)
    (J : KJ4 T R g z N cap ρ w I W all (some [all.getD i 0]) (i + 1)) : KG4 T R g z N cap ρ w I W all (none) i := by
  have hX := hXWd
  have h1 : (i : Int) < (all.length : Int) := by omega
  have h0 : 0 ≤ IntKind.u64.wrap (i : Int) := by rw [IntKind.wrap_u64]; omega
  have tsz : (XWd.TE 3).size = 1 := rfl
  have ez : cellOff i 1 0 = i := by simp [cellOff]
  have ewi : IntKind.i64.wrap ((i : Int) + 1) = ((i + 1 : Nat) : Int) := by rw [wi64 (by omega) (by omega)]; omega
  dsimp only [KG4, wdT4, wdH4, slV, slE]
  unfold KJ4 at J
  dsimp only [wdT4, wdH4, slV, slE] at J
  refine sx hX [] 4000 rfl (by (simp [-List.getD_eq_getElem?_getD, -List.length_eq_zero_iff, conjP])) ?_
  refine sx hX [.T] 4000 rfl (by (simp [-List.getD_eq_getElem?_getD, -List.length_eq_zero_iff, conjP, h1, h0])) ?_
  refine sx hX [.T] 4000 rfl (by (simp [-List.getD_eq_getElem?_getD, -List.length_eq_zero_iff, conjP, h1, hg, hi, ez, Int.toNat_natCast])) ?_
  (refine J _ _ _ (sub_of [0, 1, 2, 3, 4, 7] rfl rfl rfl rfl ?tt ?hh ?ot ?ok); (case tt => (try simp only [ewi]); exact clhW); (case hh => (try simp only [ez, Int.toNat_natCast]); exact clhW); (case ot => exact clkW); (case ok => exact clkW))
set_option maxHeartbeats 4000000 in
theorem r4ks (_hr : rightB (T : Int) 4 1 2 4 1 6 0 R = true) (_t1 : 1 ≤ T) (_t8 : T ≤ 8) (_hl : W.length = 11 + 10 * T) (_hbd : ∀ j, 0 ≤ W.getD j 0 ∧ W.getD j 0 < 18446744073709551616) {l : List Int} (hll : l.length < 1000) (hi : i < all.length) (hal : all.length ≤ 8) (hg : ibits .and .i64 (g.fdiv (2 ^ (min (IntKind.u64.wrap (i : Int)).toNat IntKind.i64.bits))) 1 = 0)
    (J : KJ4 T R g z N cap ρ w I W all (some (l ++ [all.getD i 0])) (i + 1)) : KG4 T R g z N cap ρ w I W all (some l) i := by
  have hX := hXWd
  have h1 : (i : Int) < (all.length : Int) := by omega
  have h0 : 0 ≤ IntKind.u64.wrap (i : Int) := by rw [IntKind.wrap_u64]; omega
  have tsz : (XWd.TE 3).size = 1 := rfl
  have ez : cellOff i 1 0 = i := by simp [cellOff]
  have ewi : IntKind.i64.wrap ((i : Int) + 1) = ((i + 1 : Nat) : Int) := by rw [wi64 (by omega) (by omega)]; omega
  dsimp only [KG4, wdT4, wdH4, slV, slE]
  unfold KJ4 at J
  dsimp only [wdT4, wdH4, slV, slE] at J
  refine sx hX [] 4000 rfl (by (simp [-List.getD_eq_getElem?_getD, -List.length_eq_zero_iff, conjP])) ?_
  refine sx hX [.T] 4000 rfl (by (simp [-List.getD_eq_getElem?_getD, -List.length_eq_zero_iff, conjP, h1, h0])) ?_
  refine sx hX [.T] 4000 rfl (by (simp [-List.getD_eq_getElem?_getD, -List.length_eq_zero_iff, conjP, h1, hg, hi, ez, Int.toNat_natCast] <;> (first | omega | ((repeat' (refine And.intro ?_ ?_)) <;> (first | omega | exact decide_eq_false (by omega) | exact decide_eq_true (by omega)))))) ?_
  (refine J _ _ _ (sub_of [0, 1, 2, 3, 4, 7] rfl rfl rfl rfl ?tt ?hh ?ot ?ok); (case tt => (try simp only [ewi]); exact clhW); (case hh => (try simp only [ez, Int.toNat_natCast]); exact clhW); (case ot => exact clkW); (case ok => exact clkW))
set_option maxHeartbeats 4000000 in
/-- A key is taken away. -/
theorem r4d {l : List Int} (hr : rightB (T : Int) 4 1 2 4 1 6 0 R = true) (t1 : 1 ≤ T) (t8 : T ≤ 8) (hl : W.length = 11 + 10 * T) (hbd : ∀ j, 0 ≤ W.getD j 0 ∧ W.getD j 0 < 18446744073709551616) (d : DK T (sfV T R) W (l ++ all.drop i)) (hi : i < all.length) (hal : all.length ≤ 8) (hg : ¬ ibits .and .i64 (g.fdiv (2 ^ (min (IntKind.u64.wrap (i : Int)).toNat IntKind.i64.bits))) 1 = 0)
    (J : KJ4 T R g z N cap ρ w I (delK T W (all.getD i 0)) all q (i + 1)) : KG4 T R g z N cap ρ w I W all q i := by
  have hd : all.drop i = all.getD i 0 :: all.drop (i + 1) := by
    rw [List.drop_eq_getElem_cons (by omega), List.getD_eq_getElem?_getD, List.getElem?_eq_getElem (by omega)]
    rfl
  rw [hd] at d
  obtain ⟨k1, k2⟩ := d.ak (all.getD i 0) (by simp)
  obtain ⟨p, hp, he⟩ := (d.here k1 k2).1 (by simp)
  rw [del_at hp d k1 k2 he] at J
  have e2 := eK_2 k1 k2
  have inner : ∀ I2 a W', a ≤ T → W' = (if p < a then W.set (fP p) 1 else W) → (a < T → ∀ W'', W'' = (if p < a + 1 then W.set (fP p) 1 else W) → KJ6 T R g z N cap ρ w I I2 W'' all q i (a + 1)) → KG6 T R g z N cap ρ w I I2 W' all q i a := fun I2 a W' ha hW back => by
    have hl' : W'.length = 11 + 10 * T := by
      rw [hW]; split
      · rw [List.length_set]; exact hl
      · exact hl
    have hbd' : ∀ j, 0 ≤ W'.getD j 0 ∧ W'.getD j 0 < 18446744073709551616 := fun j => by
      rw [hW]; split
      · rw [set_getD]; split
        · omega
        · exact hbd j
      · exact hbd j
    by_cases haT : a < T
    · by_cases hap : a = p
      · subst hap
        rw [if_neg (by omega)] at hW
        subst hW
        have back := back haT _ rfl
        rw [if_pos (by omega)] at back
        exact r6s hr t1 t8 hl' hbd' haT hi hal ((d.ky hp k1 k2).2 he) back
      · have hk : W'.getD (fP a) 0 = W.getD (fP a) 0 := by
          rw [hW]; split
          · rw [set_getD, if_neg (fun x => hap (fP_inj x.1).symm)]
          · rfl
        have back := back haT W' (by rw [hW]; by_cases x : p < a; rw [if_pos x, if_pos (by omega)]; rw [if_neg x, if_neg (by omega)])
        refine r6n hr t1 t8 hl' hbd' haT hi hal (fun x => hap ?_) back
        rw [hk] at x
        have q2 := (d.ky haT k1 k2).1 x
        exact d.u a p haT hp (by omega) (by rw [q2, he])
    · have hT : a = T := by omega
      subst hT
      rw [if_pos hp] at hW
      subst hW
      exact r6e hr t1 t8 hl' hbd' hi hal J
  have hX := hXWd
  have h1 : (i : Int) < (all.length : Int) := by omega
  have h0 : 0 ≤ IntKind.u64.wrap (i : Int) := by rw [IntKind.wrap_u64]; omega
  dsimp only [KG4, wdT4, wdH4]
  refine sxb hX [.l] [] 4000 rfl (by (simp [-List.getD_eq_getElem?_getD, -List.length_eq_zero_iff, conjP])) ?_
  refine sxb hX [.l] [.T] 4000 rfl (by (simp [-List.getD_eq_getElem?_getD, -List.length_eq_zero_iff, conjP, h1, h0])) ?_
  refine sxb hX [.l] [.F] 4000 rfl (by (simp [-List.getD_eq_getElem?_getD, -List.length_eq_zero_iff, conjP, addOP, hg])) ?_
  (refine ss_sub hX (T' := wdT6 W all q i 0) (H' := wdH4 T R g z N cap W all q) [0, 1, 2, 3, 4, 5] rfl rfl rfl rfl ?tt ?hh ?ot ?ok ?jj; (case tt => exact clhW); (case hh => exact clhW); (case ot => exact clkW); (case ok => exact clkW); (case jj => refine ss_loop hX (fun x : Nat × List Int => wdT6 x.2 all q i x.1) (fun x => wdH4 T R g z N cap x.2 all q) (fun x => x.1 ≤ T ∧ x.2 = (if p < x.1 then W.set (fP p) 1 else W)) (fun x => T - x.1) (0, W) ⟨Nat.zero_le _, (if_neg (Nat.not_lt_zero p)).symm⟩ ?_; rintro ⟨a, W'⟩ ⟨ha, hW⟩ I2 back; refine sxb hX [.r 25] [] 100 rfl trivial ?_; exact ss_sw hX (sw_ss hX (cs := []) (inner I2 a W' ha hW (fun hj W'' hW'' => back (a + 1, W'') ⟨hj, hW''⟩ (by show T - (a + 1) < T - a; omega))))))
/-- The end. -/
theorem r4e {_l : List Int} (hW : W = (leftV T R z (gBt g)).1) (hq : q = opL (leftV T R z (gBt g)).2) (hn : i = all.length) : KG4 T R g z N cap ρ w I W all q i := by
  have hX := hXWd
  have h1 : ¬ (i : Int) < (all.length : Int) := by omega
  dsimp only [KG4, wdT4, wdH4]
  rw [hq]
  unfold wdV wdL
  rw [← hW]
  refine sx hX [] 4000 rfl (by (simp [-List.getD_eq_getElem?_getD, -List.length_eq_zero_iff, conjP])) ?_
  refine sx hX [.F] 4000 rfl (by (simp [-List.getD_eq_getElem?_getD, -List.length_eq_zero_iff, conjP, addOP, h1])) ?_
  (refine ss_end hX [0, 3, 5] rfl rfl trivial rfl rfl rfl rfl ?tt ?hh ?ot ?ok; (case tt => exact clhW); (case hh => exact clhW); (case ot => exact clkW); (case ok => exact clkW))
end
end Go.Proofs.YtkkddjchkkaagaaGreatDoor
