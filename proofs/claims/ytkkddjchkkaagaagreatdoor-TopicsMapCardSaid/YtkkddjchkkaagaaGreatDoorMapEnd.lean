/- TopicsMap: behind the turns: the least time above the last one. -/
import Derived.Test.YtkkddjchkkaagaaGreatDoorMapRows
namespace Go.Proofs.YtkkddjchkkaagaaGreatDoor
open Go Go.Hx
set_option maxRecDepth 8000
def ctTme : Nat → Option Hx.Spec
  | 53 => some (arWordsS)
  | 70 => some (togS)
  | 37 => some (hasS)
  | 42 => some (pureS (placeS entryF))
  | 38 => some (pureS rkeyS)
  | _ => none
theorem ctTme_ok : ∀ f s args H ob V L, ctTme f = some s → s args H = some (ob, V, L) → AllP ob → Gives Tryz.prog f args H (Is V L) := by
  intro f s args H ob V L h hs ho
  unfold ctTme at h
  split at h
  · simp at h; subst h; exact arWordsS_ok hs ho
  · simp at h; subst h; exact togS_ok hs ho
  · simp at h; subst h; exact hasS_ok hs ho
  · simp at h; subst h; exact pureS_ok ⟨_, hTE⟩ (placeS_ok (v := entryF) rentry_fn) hs ho
  · simp at h; subst h; exact pureS_ok ⟨_, hTE⟩ (rkeyS_ok) hs ho
  · simp at h
noncomputable def XTme : Tabs := tabs tr ft xt (fun _ => none) ctTme 0
theorem hXTme : TOk Tryz.prog (XTme) := ⟨hTE, hFT, ctTme_ok, hXT, fun t ks h => by simp [XTme, tabs] at h, mixed⟩
theorem clhE {P : Prop} (h : P := by repeat' (first | exact rfl | exact trivial | exact sim_refl _ | exact simO_refl _ | exact sim_lgV rfl | exact sim_slVr rfl | exact subE_same rfl ren_scE | exact subE_same rfl ren_lgE | exact subE_same rfl ren_slE | assumption | refine And.intro ?_ ?_)) : P := h
theorem clkE {P : Prop} (h : P := by repeat' (first | exact rfl | exact trivial | exact okE_scE | exact okE_lgE | exact okE_slE | exact okP_lgV rfl | exact okP_slV rfl | refine And.intro ?_ ?_)) : P := h
structure EW where
  (T : Nat) (R : Int) (W : List Int) (st kd wd vl : Int) (ch : Bool) (L : List EvT)
def evN (z : EW) (q : Option (List Int)) (last : Int) (n : Nat) (m : Int) (j : Nat) : List (Nat × SV) := [(5, .tt), (6, .ptr 2 0), (7, .ptr 3 0), (10, .sbuf 5 4 0 z.L.length), (18, slV q 6), (19, .int .i64 last), (20, .int .i64 (n : Int)), (21, .int .i64 m), (22, .int .i64 (j : Int))]
def evG (bb : Bool) (N : Nat) (o : Nat → Int × Int × Bool × Bool) (z : EW) (q : Option (List Int)) (y : List HE) : List HE := scE bb N o :: pinE RTV :: cfE z.T z.R :: AOx 4 z.W z.st z.kd z.wd z.vl z.ch :: WO z.W :: .obj (.buf .i64 (flE z.L) 4 114) :: slE q .i64 3 :: y
/-- The time of a written one. -/
def fT (L : List EvT) (j : Nat) : Int := (flE L).getD (j * 4) 0
section
variable {bb : Bool} {N : Nat} {o : Nat → Int × Int × Bool × Bool} {z : EW} {q : Option (List Int)} {last : Int} {n : Nat} {ρ : Nat → Nat × Nat} {w : World} {I I2 : Act → World → Prop}
abbrev NJ (bb : Bool) (N : Nat) (o : Nat → Int × Int × Bool × Bool) (z : EW) (q : Option (List Int)) (last : Int) (n : Nat) (ρ : Nat → Nat × Nat) (w : World) (I I2 : Act → World → Prop) (m : Int) (j : Nat) : Prop :=
  ∀ cs TT H, Sub (FEnv Tryz.prog XTme.TE hXTme.te Tryz.f11 Tryz.f11.ntmps [scE bb N o, pinE RTV] (Is .tt [scE bb N o, pinE RTV]) ρ w) TT H (evN z q last n m j) (evG bb N o z q []) → SS hXTme (At ρ w) (Is .tt [scE bb N o, pinE RTV]) ⟨cs, [], Tryz.f11, Tryz.f11.ntmps, [scE bb N o, pinE RTV], downLp (contF Tryz.f11 34 [I2, I]), TT, H⟩
abbrev NG (bb : Bool) (N : Nat) (o : Nat → Int × Int × Bool × Bool) (z : EW) (q : Option (List Int)) (last : Int) (n : Nat) (ρ : Nat → Nat × Nat) (w : World) (I I2 : Act → World → Prop) (m : Int) (j : Nat) : Prop :=
  SS hXTme (At ρ w) (Is .tt [scE bb N o, pinE RTV]) ⟨[], [], Tryz.f11, Tryz.f11.ntmps, [scE bb N o, pinE RTV], contF Tryz.f11 34 [I2, I], evN z q last n m j, evG bb N o z q []⟩
set_option maxHeartbeats 4000000 in
theorem nxa {j : Nat} (hj : j < z.L.length) (hl : z.L.length ≤ 320) {m : Int} (_hm : m < (z.L.length : Int)) (g : ¬ last < fT z.L j) (J : NJ bb N o z q last n ρ w I I2 m (j + 1)) : NG bb N o z q last n ρ w I I2 m j := by
  have hj1 : (j : Int) < (z.L.length : Int) := by omega
  have hfl := flE_len (l := z.L)
  have ewj : IntKind.i64.wrap ((j : Int) + 1) = ((j + 1 : Nat) : Int) := by rw [wi64 (by omega) (by omega)]; omega
  unfold fT at g
  have hX := hXTme
  have tsz : (XTme.TE 114).size = 4 := rfl
  have isz : (XTme.TE 3).size = 1 := rfl
  dsimp only [NG, evN, evG]
  refine sx hX [] 4000 rfl (by (simp [-List.getD_eq_getElem?_getD, -List.length_eq_zero_iff, conjP])) ?_
  refine sx hX [.T] 4000 rfl (by (simp [-List.getD_eq_getElem?_getD, -List.length_eq_zero_iff, conjP, addOP, hj1])) ?_
  refine sx hX [.K, .F] 4000 rfl (by (simp [-List.getD_eq_getElem?_getD, -List.length_eq_zero_iff, conjP, hj1, hfl, isz, g, mulS, cellOff, Int.toNat_natCast] <;> (first | omega | ((repeat' (refine And.intro ?_ ?_)) <;> (first | omega | exact decide_eq_false (by omega) | exact decide_eq_true (by omega)))))) ?_
  (refine J _ _ _ (sub_of [0, 1, 2, 3, 4, 5, 6] rfl rfl rfl (by cases bb <;> rfl) ?tt ?hh ?ot ?ok); (case tt => simp only [ewj]; exact clhE); (case hh => exact clhE); (case ot => exact clkE); (case ok => exact clkE))
set_option maxHeartbeats 4000000 in
theorem nxb {j : Nat} (hj : j < z.L.length) (hl : z.L.length ≤ 320) {m : Int} (hm : m < 0) (g : last < fT z.L j) (J : NJ bb N o z q last n ρ w I I2 (j : Int) (j + 1)) : NG bb N o z q last n ρ w I I2 m j := by
  have hj1 : (j : Int) < (z.L.length : Int) := by omega
  have hfl := flE_len (l := z.L)
  have ewj : IntKind.i64.wrap ((j : Int) + 1) = ((j + 1 : Nat) : Int) := by rw [wi64 (by omega) (by omega)]; omega
  unfold fT at g
  have hX := hXTme
  have tsz : (XTme.TE 114).size = 4 := rfl
  have isz : (XTme.TE 3).size = 1 := rfl
  dsimp only [NG, evN, evG]
  refine sx hX [] 4000 rfl (by (simp [-List.getD_eq_getElem?_getD, -List.length_eq_zero_iff, conjP])) ?_
  refine sx hX [.T] 4000 rfl (by (simp [-List.getD_eq_getElem?_getD, -List.length_eq_zero_iff, conjP, addOP, hj1])) ?_
  refine sx hX [.K, .T, .K, .T] 4000 rfl (by (simp [-List.getD_eq_getElem?_getD, -List.length_eq_zero_iff, conjP, hj1, hfl, isz, g, hm, mulS, cellOff, Int.toNat_natCast] <;> (first | omega | ((repeat' (refine And.intro ?_ ?_)) <;> (first | omega | exact decide_eq_false (by omega) | exact decide_eq_true (by omega)))))) ?_
  (refine J _ _ _ (sub_of [0, 1, 2, 3, 4, 5, 6] rfl rfl rfl (by cases bb <;> rfl) ?tt ?hh ?ot ?ok); (case tt => simp only [ewj]; exact clhE); (case hh => exact clhE); (case ot => exact clkE); (case ok => exact clkE))
set_option maxHeartbeats 4000000 in
theorem nxc {j : Nat} (hj : j < z.L.length) (hl : z.L.length ≤ 320) {p : Nat} (hp : p < z.L.length) (g : last < fT z.L j) (g2 : fT z.L j < fT z.L p) (J : NJ bb N o z q last n ρ w I I2 (j : Int) (j + 1)) : NG bb N o z q last n ρ w I I2 (p : Int) j := by
  have hj1 : (j : Int) < (z.L.length : Int) := by omega
  have hfl := flE_len (l := z.L)
  have ewj : IntKind.i64.wrap ((j : Int) + 1) = ((j + 1 : Nat) : Int) := by rw [wi64 (by omega) (by omega)]; omega
  have hp0 : ¬ (p : Int) < 0 := by omega
  unfold fT at g g2
  have hX := hXTme
  have tsz : (XTme.TE 114).size = 4 := rfl
  have isz : (XTme.TE 3).size = 1 := rfl
  dsimp only [NG, evN, evG]
  refine sx hX [] 4000 rfl (by (simp [-List.getD_eq_getElem?_getD, -List.length_eq_zero_iff, conjP])) ?_
  refine sx hX [.T] 4000 rfl (by (simp [-List.getD_eq_getElem?_getD, -List.length_eq_zero_iff, conjP, addOP, hj1])) ?_
  refine sx hX [.K, .T, .K, .F] 4000 rfl (by (simp [-List.getD_eq_getElem?_getD, -List.length_eq_zero_iff, conjP, hj1, hfl, isz, g, hp, hp0, mulS, cellOff, Int.toNat_natCast] <;> (first | omega | ((repeat' (refine And.intro ?_ ?_)) <;> (first | omega | exact decide_eq_false (by omega) | exact decide_eq_true (by omega)))))) ?_
  refine sx hX [.T] 4000 rfl (by (simp [-List.getD_eq_getElem?_getD, -List.length_eq_zero_iff, conjP, addOP, isz, g2, mulS, cellOff, Int.toNat_natCast])) ?_
  (refine J _ _ _ (sub_of [0, 1, 2, 3, 4, 5, 6] rfl rfl rfl (by cases bb <;> rfl) ?tt ?hh ?ot ?ok); (case tt => simp only [ewj]; exact clhE); (case hh => exact clhE); (case ot => exact clkE); (case ok => exact clkE))
set_option maxHeartbeats 4000000 in
theorem nxd {j : Nat} (hj : j < z.L.length) (hl : z.L.length ≤ 320) {p : Nat} (hp : p < z.L.length) (g : last < fT z.L j) (g2 : ¬ fT z.L j < fT z.L p) (J : NJ bb N o z q last n ρ w I I2 (p : Int) (j + 1)) : NG bb N o z q last n ρ w I I2 (p : Int) j := by
  have hj1 : (j : Int) < (z.L.length : Int) := by omega
  have hfl := flE_len (l := z.L)
  have ewj : IntKind.i64.wrap ((j : Int) + 1) = ((j + 1 : Nat) : Int) := by rw [wi64 (by omega) (by omega)]; omega
  have hp0 : ¬ (p : Int) < 0 := by omega
  unfold fT at g g2
  have hX := hXTme
  have tsz : (XTme.TE 114).size = 4 := rfl
  have isz : (XTme.TE 3).size = 1 := rfl
  dsimp only [NG, evN, evG]
  refine sx hX [] 4000 rfl (by (simp [-List.getD_eq_getElem?_getD, -List.length_eq_zero_iff, conjP])) ?_
  refine sx hX [.T] 4000 rfl (by (simp [-List.getD_eq_getElem?_getD, -List.length_eq_zero_iff, conjP, addOP, hj1])) ?_
  refine sx hX [.K, .T, .K, .F] 4000 rfl (by (simp [-List.getD_eq_getElem?_getD, -List.length_eq_zero_iff, conjP, hj1, hfl, isz, g, hp, hp0, mulS, cellOff, Int.toNat_natCast] <;> (first | omega | ((repeat' (refine And.intro ?_ ?_)) <;> (first | omega | exact decide_eq_false (by omega) | exact decide_eq_true (by omega)))))) ?_
  refine sx hX [.F] 4000 rfl (by (simp [-List.getD_eq_getElem?_getD, -List.length_eq_zero_iff, conjP, addOP, isz, g2, mulS, cellOff, Int.toNat_natCast])) ?_
  (refine J _ _ _ (sub_of [0, 1, 2, 3, 4, 5, 6] rfl rfl rfl (by cases bb <;> rfl) ?tt ?hh ?ot ?ok); (case tt => simp only [ewj]; exact clhE); (case hh => exact clhE); (case ot => exact clkE); (case ok => exact clkE))
end
end Go.Proofs.YtkkddjchkkaagaaGreatDoor

/- TopicsMap: what took effect, one behind the other. -/
namespace Go.Proofs.YtkkddjchkkaagaaGreatDoor
open Go Go.Hx
set_option maxRecDepth 8000
def evO (z : EW) (q : Option (List Int)) (last : Int) (n : Nat) : List (Nat × SV) := [(5, .tt), (6, .ptr 2 0), (7, .ptr 3 0), (10, .sbuf 5 4 0 z.L.length), (18, slV q 6), (19, .int .i64 last), (20, .int .i64 (n : Int))]
def evM (z : EW) (q : Option (List Int)) (last : Int) (n : Nat) : List (Nat × SV) := [(5, .tt), (6, .ptr 2 0), (7, .ptr 3 0), (10, .sbuf 5 4 0 z.L.length), (18, slV q 6), (19, .int .i64 last), (20, .int .i64 (n : Int)), (21, .int .i64 (-1))]
def evP (z : EW) (q : Option (List Int)) (n : Nat) : List (Nat × SV) := [(5, .tt), (6, .ptr 2 0), (7, .ptr 3 0), (10, .sbuf 5 4 0 z.L.length), (18, slV q 6), (20, .int .i64 (n : Int)), (23, .ptr 7 0)]
def evE (q : Option (List Int)) : List (Nat × SV) := [(5, .tt), (6, .ptr 2 0), (7, .ptr 3 0), (18, slV q 5)]
def evF (bb : Bool) (N : Nat) (o : Nat → Int × Int × Bool × Bool) (z : EW) (q : Option (List Int)) (y : List HE) : List HE := scE bb N o :: pinE RTV :: cfE z.T z.R :: AOx 4 z.W z.st z.kd z.wd z.vl z.ch :: WO z.W :: slE q .i64 3 :: y
/-- A written one's key, op and answer. -/
theorem gd0 {a b c d : Int} : [a, b, c, d].getD 0 0 = a := rfl
theorem gd1 {a b c d : Int} : [a, b, c, d].getD 1 0 = b := rfl
theorem gd2 {a b c d : Int} : [a, b, c, d].getD 2 0 = c := rfl
theorem gd3 {a b c d : Int} : [a, b, c, d].getD 3 0 = d := rfl
def kT (L : List EvT) (j : Nat) : Int := (flE L).getD (j * 4 + 1) 0
def oT (L : List EvT) (j : Nat) : Int := (flE L).getD (j * 4 + 2) 0
def rT (L : List EvT) (j : Nat) : Int := (flE L).getD (j * 4 + 3) 0
section
variable {bb : Bool} {N : Nat} {o : Nat → Int × Int × Bool × Bool} {z : EW} {q : Option (List Int)} {last : Int} {n : Nat} {ρ : Nat → Nat × Nat} {w : World} {I I2 : Act → World → Prop}
abbrev OJ (bb : Bool) (N : Nat) (o : Nat → Int × Int × Bool × Bool) (z : EW) (ρ : Nat → Nat × Nat) (w : World) (I : Act → World → Prop) (q : Option (List Int)) (last : Int) (n : Nat) : Prop :=
  ∀ cs TT H, Sub (FEnv Tryz.prog XTme.TE hXTme.te Tryz.f11 Tryz.f11.ntmps [scE bb N o, pinE RTV] (Is .tt [scE bb N o, pinE RTV]) ρ w) TT H (evO z q last n) (evG bb N o z q []) → SS hXTme (At ρ w) (Is .tt [scE bb N o, pinE RTV]) ⟨cs, [], Tryz.f11, Tryz.f11.ntmps, [scE bb N o, pinE RTV], downLp (contF Tryz.f11 30 [I]), TT, H⟩
/-- Behind all that took effect. -/
abbrev EJ (bb : Bool) (N : Nat) (o : Nat → Int × Int × Bool × Bool) (z : EW) (ρ : Nat → Nat × Nat) (w : World) (q : Option (List Int)) : Prop :=
  SS hXTme (At ρ w) (Is .tt [scE bb N o, pinE RTV]) ⟨[], [], Tryz.f11, Tryz.f11.ntmps, [scE bb N o, pinE RTV], contF Tryz.f11 57 [], evE q, evF bb N o z q []⟩
set_option maxHeartbeats 4000000 in
theorem evbrk (J : EJ bb N o z ρ w q) : NG bb N o z q last n ρ w I I2 (-1) z.L.length := by
  have hj1 : ¬ (z.L.length : Int) < (z.L.length : Int) := by omega
  have hX := hXTme
  dsimp only [NG, evN, evG, evF] at *
  refine sxb hX [.r 57] [] 4000 rfl (by (simp [-List.getD_eq_getElem?_getD, -List.length_eq_zero_iff, conjP])) ?_
  refine sxb hX [.r 57] [.F] 4000 rfl (by (simp [-List.getD_eq_getElem?_getD, -List.length_eq_zero_iff, conjP, addOP, hj1])) ?_
  refine sxb hX [.r 57] [.T] 4000 rfl (by (simp [-List.getD_eq_getElem?_getD, -List.length_eq_zero_iff, conjP, addOP])) ?_
  (refine ss_sub hX (T' := evE q) (H' := evF bb N o z q []) [0, 1, 2, 3, 4, 6] rfl rfl rfl (by cases bb <;> rfl) ?tt ?hh ?ot ?ok J; (case tt => exact clhE); (case hh => exact clhE); (case ot => exact clkE); (case ok => exact clkE))
set_option maxHeartbeats 4000000 in
/-- All of them were looked at. -/
theorem evstop (hn : n = z.L.length) (J : EJ bb N o z ρ w q) : SS hXTme (At ρ w) (Is .tt [scE bb N o, pinE RTV]) ⟨[], [], Tryz.f11, Tryz.f11.ntmps, [scE bb N o, pinE RTV], contF Tryz.f11 30 [I], evO z q last n, evG bb N o z q []⟩ := by
  have hj1 : ¬ (n : Int) < (z.L.length : Int) := by omega
  have hX := hXTme
  dsimp only [evO, evG, evF] at *
  refine sxb hX [.r 57] [] 4000 rfl (by (simp [-List.getD_eq_getElem?_getD, -List.length_eq_zero_iff, conjP])) ?_
  refine sxb hX [.r 57] [.F] 4000 rfl (by (simp [-List.getD_eq_getElem?_getD, -List.length_eq_zero_iff, conjP, addOP, hj1])) ?_
  (refine ss_sub hX (T' := evE q) (H' := evF bb N o z q []) [0, 1, 2, 3, 4, 6] rfl rfl rfl (by cases bb <;> rfl) ?tt ?hh ?ot ?ok J; (case tt => exact clhE); (case hh => exact clhE); (case ot => exact clkE); (case ok => exact clkE))
set_option maxHeartbeats 4000000 in
/-- Up to the search for the next one. -/
theorem evgo (hn : n < z.L.length) (J : SS hXTme (At ρ w) (Is .tt [scE bb N o, pinE RTV]) ⟨[], [], Tryz.f11, Tryz.f11.ntmps, [scE bb N o, pinE RTV], contF Tryz.f11 33 [I], evM z q last n, evG bb N o z q []⟩) : SS hXTme (At ρ w) (Is .tt [scE bb N o, pinE RTV]) ⟨[], [], Tryz.f11, Tryz.f11.ntmps, [scE bb N o, pinE RTV], contF Tryz.f11 30 [I], evO z q last n, evG bb N o z q []⟩ := by
  have hj1 : (n : Int) < (z.L.length : Int) := by omega
  have hX := hXTme
  dsimp only [evO, evM, evG] at *
  refine sxb hX [.r 33] [] 4000 rfl (by (simp [-List.getD_eq_getElem?_getD, -List.length_eq_zero_iff, conjP])) ?_
  refine sxb hX [.r 33] [.T] 4000 rfl (by (simp [-List.getD_eq_getElem?_getD, -List.length_eq_zero_iff, conjP, addOP, hj1])) ?_
  (refine ss_sub hX (T' := evM z q last n) (H' := evG bb N o z q []) [0, 1, 2, 3, 4, 5, 6] rfl rfl rfl (by cases bb <;> rfl) ?tt ?hh ?ot ?ok J; (case tt => exact clhE); (case hh => exact clhE); (case ot => exact clkE); (case ok => exact clkE))
abbrev RG (bb : Bool) (N : Nat) (o : Nat → Int × Int × Bool × Bool) (z : EW) (ρ : Nat → Nat × Nat) (w : World) (I : Act → World → Prop) (q : Option (List Int)) (n : Nat) (tm k op er : Int) : Prop :=
  SS hXTme (At ρ w) (Is .tt [scE bb N o, pinE RTV]) ⟨[], [], Tryz.f11, Tryz.f11.ntmps, [scE bb N o, pinE RTV], contF Tryz.f11 40 [I], evP z q n, evG bb N o z q [.obj (.ints .i64 [tm, k, op, er] 114)]⟩
set_option maxHeartbeats 4000000 in
/-- The next one is taken. -/
theorem evrow {p : Nat} (hp : p < z.L.length) (J : RG bb N o z ρ w I2 q n (fT z.L p) (kT z.L p) (oT z.L p) (rT z.L p)) : NG bb N o z q last n ρ w I I2 (p : Int) z.L.length := by
  have hj1 : ¬ (z.L.length : Int) < (z.L.length : Int) := by omega
  have hp0 : ¬ (p : Int) < 0 := by omega
  have hfl := flE_len (l := z.L)
  have hX := hXTme
  have tsz : (XTme.TE 114).size = 4 := rfl
  have isz : (XTme.TE 3).size = 1 := rfl
  dsimp only [NG, evN, evG]
  refine sxb hX [.r 40] [] 4000 rfl (by (simp [-List.getD_eq_getElem?_getD, -List.length_eq_zero_iff, conjP])) ?_
  refine sxb hX [.r 40] [.F] 4000 rfl (by (simp [-List.getD_eq_getElem?_getD, -List.length_eq_zero_iff, conjP, addOP, hj1])) ?_
  refine sxb hX [.r 40] [.F] 4000 rfl (by (simp [-List.getD_eq_getElem?_getD, -List.length_eq_zero_iff, conjP, hp, hp0, hfl, tsz, cellOff, Int.toNat_natCast] <;> (first | omega | ((repeat' (refine And.intro ?_ ?_)) <;> (first | omega | exact decide_eq_false (by omega) | exact decide_eq_true (by omega)))))) ?_
  (refine ss_sub hX (T' := evP z q n) (H' := evG bb N o z q [.obj (.ints .i64 [fT z.L p, kT z.L p, oT z.L p, rT z.L p] 114)]) [0, 1, 2, 3, 4, 5, 6, 7] rfl rfl rfl (by cases bb <;> rfl) ?tt ?hh ?ot ?ok J; (case tt => exact clhE); (case hh => exact clhE); (case ot => exact clkE); (case ok => exact clkE))
set_option maxHeartbeats 4000000 in
theorem evra (hn : n < z.L.length) (hl : z.L.length ≤ 320) {tm k op er : Int} (g4 : er = 0) (g3 : op = 0) (J : OJ bb N o z ρ w I (tgO (lst (none)) k) tm (n + 1)) : RG bb N o z ρ w I (none) n tm k op er := by
  have ewj : IntKind.i64.wrap ((n : Int) + 1) = ((n + 1 : Nat) : Int) := by rw [wi64 (by omega) (by omega)]; omega
  subst g4; subst g3
  have hX := hXTme
  have tsz : (XTme.TE 114).size = 4 := rfl
  have isz : (XTme.TE 3).size = 1 := rfl
  dsimp only [RG, evP, evG, slV, slE]
  refine sx hX [] 4000 rfl (by (simp [-List.getD_eq_getElem?_getD, -List.length_eq_zero_iff, conjP])) ?_
  refine sx hX [.T] 4000 rfl (by (simp [-List.getD_eq_getElem?_getD, -List.length_eq_zero_iff, conjP, gd3])) ?_
  refine sx hX [.F] 4000 rfl (by (simp [-List.getD_eq_getElem?_getD, -List.length_eq_zero_iff, conjP, gd2])) ?_
  (refine J _ _ _ (sub_of [0, 1, 2, 3, 4, 5, 8] rfl rfl rfl (by cases bb <;> rfl) ?tt ?hh ?ot ?ok); (case tt => simp only [ewj]; exact clhE); (case hh => exact clhE); (case ot => exact clkE); (case ok => exact clkE))
set_option maxHeartbeats 4000000 in
theorem evrb (hn : n < z.L.length) (hl : z.L.length ≤ 320) {tm k op er : Int} (g4 : er = 12) (J : OJ bb N o z ρ w I (none) tm (n + 1)) : RG bb N o z ρ w I (none) n tm k op er := by
  have ewj : IntKind.i64.wrap ((n : Int) + 1) = ((n + 1 : Nat) : Int) := by rw [wi64 (by omega) (by omega)]; omega
  subst g4
  have hX := hXTme
  have tsz : (XTme.TE 114).size = 4 := rfl
  have isz : (XTme.TE 3).size = 1 := rfl
  dsimp only [RG, evP, evG, slV, slE]
  refine sx hX [] 4000 rfl (by (simp [-List.getD_eq_getElem?_getD, -List.length_eq_zero_iff, conjP])) ?_
  refine sx hX [.F] 4000 rfl (by (simp [-List.getD_eq_getElem?_getD, -List.length_eq_zero_iff, conjP, addOP, gd3])) ?_
  refine sx hX [.F] 4000 rfl (by (simp [-List.getD_eq_getElem?_getD, -List.length_eq_zero_iff, conjP, addOP, gd3])) ?_
  refine sx hX [.T] 4000 rfl (by (simp [-List.getD_eq_getElem?_getD, -List.length_eq_zero_iff, conjP, addOP, gd3])) ?_
  refine sx hX [.F] 4000 rfl (by (simp [-List.getD_eq_getElem?_getD, -List.length_eq_zero_iff, conjP, addOP])) ?_
  (refine J _ _ _ (sub_of [0, 1, 2, 3, 4, 5, 6] rfl rfl rfl (by cases bb <;> rfl) ?tt ?hh ?ot ?ok); (case tt => simp only [ewj]; exact clhE); (case hh => exact clhE); (case ot => exact clkE); (case ok => exact clkE))
set_option maxHeartbeats 4000000 in
theorem evrc (hn : n < z.L.length) (hl : z.L.length ≤ 320) {tm k op er : Int} {l : List Int} (hll : l.length < 1000) (hh : hasL l k = false) (g4 : er = 0) (g3 : op = 0) (J : OJ bb N o z ρ w I (tgO (lst (some l)) k) tm (n + 1)) : RG bb N o z ρ w I (some l) n tm k op er := by
  have ewj : IntKind.i64.wrap ((n : Int) + 1) = ((n + 1 : Nat) : Int) := by rw [wi64 (by omega) (by omega)]; omega
  have hll2 : l.length < 1000000 := by omega
  subst g4; subst g3
  have hX := hXTme
  have tsz : (XTme.TE 114).size = 4 := rfl
  have isz : (XTme.TE 3).size = 1 := rfl
  dsimp only [RG, evP, evG, slV, slE]
  refine sx hX [] 4000 rfl (by (simp [-List.getD_eq_getElem?_getD, -List.length_eq_zero_iff, conjP, hll2])) ?_
  refine sx hX [.T] 4000 rfl (by (simp [-List.getD_eq_getElem?_getD, -List.length_eq_zero_iff, conjP, gd3])) ?_
  refine sx hX [.F] 4000 rfl (by (simp [-List.getD_eq_getElem?_getD, -List.length_eq_zero_iff, conjP, hll, hh, gd1, gd2])) ?_
  (refine J _ _ _ (sub_of [0, 1, 2, 3, 4, 5, 8] rfl rfl rfl (by cases bb <;> rfl) ?tt ?hh ?ot ?ok); (case tt => simp only [ewj]; exact clhE); (case hh => exact clhE); (case ot => exact clkE); (case ok => exact clkE))
set_option maxHeartbeats 4000000 in
theorem evrd (hn : n < z.L.length) (hl : z.L.length ≤ 320) {tm k op er : Int} {l : List Int} (hll : l.length < 1000) (hh : hasL l k = true) (g4 : er = 0) (g3 : ¬ op = 0) (J : OJ bb N o z ρ w I (tgO (lst (some l)) k) tm (n + 1)) : RG bb N o z ρ w I (some l) n tm k op er := by
  have ewj : IntKind.i64.wrap ((n : Int) + 1) = ((n + 1 : Nat) : Int) := by rw [wi64 (by omega) (by omega)]; omega
  have hll2 : l.length < 1000000 := by omega
  subst g4
  have hX := hXTme
  have tsz : (XTme.TE 114).size = 4 := rfl
  have isz : (XTme.TE 3).size = 1 := rfl
  dsimp only [RG, evP, evG, slV, slE]
  refine sx hX [] 4000 rfl (by (simp [-List.getD_eq_getElem?_getD, -List.length_eq_zero_iff, conjP, hll2])) ?_
  refine sx hX [.T] 4000 rfl (by (simp [-List.getD_eq_getElem?_getD, -List.length_eq_zero_iff, conjP, gd3])) ?_
  refine sx hX [.F] 4000 rfl (by (simp [-List.getD_eq_getElem?_getD, -List.length_eq_zero_iff, conjP, hll, g3, hh, gd1, gd2])) ?_
  (refine J _ _ _ (sub_of [0, 1, 2, 3, 4, 5, 8] rfl rfl rfl (by cases bb <;> rfl) ?tt ?hh ?ot ?ok); (case tt => simp only [ewj]; exact clhE); (case hh => exact clhE); (case ot => exact clkE); (case ok => exact clkE))
set_option maxHeartbeats 4000000 in
theorem evre (hn : n < z.L.length) (hl : z.L.length ≤ 320) {tm k op er : Int} {l : List Int} (hll : l.length < 1000) (hh : hasL l k = true) (g4 : er = 14) (J : OJ bb N o z ρ w I (some l) tm (n + 1)) : RG bb N o z ρ w I (some l) n tm k op er := by
  have ewj : IntKind.i64.wrap ((n : Int) + 1) = ((n + 1 : Nat) : Int) := by rw [wi64 (by omega) (by omega)]; omega
  have hll2 : l.length < 1000000 := by omega
  subst g4
  have hX := hXTme
  have tsz : (XTme.TE 114).size = 4 := rfl
  have isz : (XTme.TE 3).size = 1 := rfl
  dsimp only [RG, evP, evG, slV, slE]
  refine sx hX [] 4000 rfl (by (simp [-List.getD_eq_getElem?_getD, -List.length_eq_zero_iff, conjP, hll2])) ?_
  refine sx hX [.F] 4000 rfl (by (simp [-List.getD_eq_getElem?_getD, -List.length_eq_zero_iff, conjP, addOP, gd3])) ?_
  refine sx hX [.T] 4000 rfl (by (simp [-List.getD_eq_getElem?_getD, -List.length_eq_zero_iff, conjP, addOP, gd3])) ?_
  refine sx hX [.F] 4000 rfl (by (simp [-List.getD_eq_getElem?_getD, -List.length_eq_zero_iff, conjP, addOP, hh, gd1])) ?_
  (refine J _ _ _ (sub_of [0, 1, 2, 3, 4, 5, 6] rfl rfl rfl (by cases bb <;> rfl) ?tt ?hh ?ot ?ok); (case tt => simp only [ewj]; exact clhE); (case hh => exact clhE); (case ot => exact clkE); (case ok => exact clkE))
set_option maxHeartbeats 4000000 in
theorem evrf (hn : n < z.L.length) (hl : z.L.length ≤ 320) {tm k op er : Int} {l : List Int} (hll : l.length < 1000) (hh : hasL l k = false) (g4 : er = 12) (J : OJ bb N o z ρ w I (some l) tm (n + 1)) : RG bb N o z ρ w I (some l) n tm k op er := by
  have ewj : IntKind.i64.wrap ((n : Int) + 1) = ((n + 1 : Nat) : Int) := by rw [wi64 (by omega) (by omega)]; omega
  have hll2 : l.length < 1000000 := by omega
  subst g4
  have hX := hXTme
  have tsz : (XTme.TE 114).size = 4 := rfl
  have isz : (XTme.TE 3).size = 1 := rfl
  dsimp only [RG, evP, evG, slV, slE]
  refine sx hX [] 4000 rfl (by (simp [-List.getD_eq_getElem?_getD, -List.length_eq_zero_iff, conjP, hll2])) ?_
  refine sx hX [.F] 4000 rfl (by (simp [-List.getD_eq_getElem?_getD, -List.length_eq_zero_iff, conjP, addOP, gd3])) ?_
  refine sx hX [.F] 4000 rfl (by (simp [-List.getD_eq_getElem?_getD, -List.length_eq_zero_iff, conjP, addOP, gd3])) ?_
  refine sx hX [.T] 4000 rfl (by (simp [-List.getD_eq_getElem?_getD, -List.length_eq_zero_iff, conjP, addOP, gd3])) ?_
  refine sx hX [.F] 4000 rfl (by (simp [-List.getD_eq_getElem?_getD, -List.length_eq_zero_iff, conjP, addOP, hh, gd1])) ?_
  (refine J _ _ _ (sub_of [0, 1, 2, 3, 4, 5, 6] rfl rfl rfl (by cases bb <;> rfl) ?tt ?hh ?ot ?ok); (case tt => simp only [ewj]; exact clhE); (case hh => exact clhE); (case ot => exact clkE); (case ok => exact clkE))
set_option maxHeartbeats 4000000 in
theorem evrg (hn : n < z.L.length) (hl : z.L.length ≤ 320) {tm k op er : Int} {l : List Int} (hll : l.length < 1000) (hh : hasL l k = false) (g4 : er = 15) (ht : (l.length : Int) = (z.T : Int)) (J : OJ bb N o z ρ w I (some l) tm (n + 1)) : RG bb N o z ρ w I (some l) n tm k op er := by
  have ewj : IntKind.i64.wrap ((n : Int) + 1) = ((n + 1 : Nat) : Int) := by rw [wi64 (by omega) (by omega)]; omega
  have hll2 : l.length < 1000000 := by omega
  subst g4
  have hX := hXTme
  have tsz : (XTme.TE 114).size = 4 := rfl
  have isz : (XTme.TE 3).size = 1 := rfl
  dsimp only [RG, evP, evG, slV, slE]
  refine sx hX [] 4000 rfl (by (simp [-List.getD_eq_getElem?_getD, -List.length_eq_zero_iff, conjP, hll2])) ?_
  refine sx hX [.F] 4000 rfl (by (simp [-List.getD_eq_getElem?_getD, -List.length_eq_zero_iff, conjP, addOP, gd3])) ?_
  refine sx hX [.F] 4000 rfl (by (simp [-List.getD_eq_getElem?_getD, -List.length_eq_zero_iff, conjP, addOP, gd3])) ?_
  refine sx hX [.F] 4000 rfl (by (simp [-List.getD_eq_getElem?_getD, -List.length_eq_zero_iff, conjP, addOP, gd3])) ?_
  refine sx hX [.T] 4000 rfl (by (simp [-List.getD_eq_getElem?_getD, -List.length_eq_zero_iff, conjP, addOP, gd3])) ?_
  refine sx hX [.F] 4000 rfl (by (simp [-List.getD_eq_getElem?_getD, -List.length_eq_zero_iff, conjP, addOP, hh, gd1])) ?_
  refine sx hX [.F] 4000 rfl (by (simp [-List.getD_eq_getElem?_getD, -List.length_eq_zero_iff, conjP, addOP, ht])) ?_
  (refine J _ _ _ (sub_of [0, 1, 2, 3, 4, 5, 6] rfl rfl rfl (by cases bb <;> rfl) ?tt ?hh ?ot ?ok); (case tt => simp only [ewj]; exact clhE); (case hh => exact clhE); (case ot => exact clkE); (case ok => exact clkE))
end
end Go.Proofs.YtkkddjchkkaagaaGreatDoor

/- TopicsMap: what is there at last. -/
namespace Go.Proofs.YtkkddjchkkaagaaGreatDoor
open Go Go.Hx
set_option maxRecDepth 8000
section
variable {bb : Bool} {N : Nat} {o : Nat → Int × Int × Bool × Bool} {z : EW} {q : Option (List Int)} {last : Int} {n : Nat} {ρ : Nat → Nat × Nat} {w : World} {I I2 : Act → World → Prop}
def plU (z : EW) (q : Option (List Int)) (c : Nat) (p : Nat) : List (Nat × SV) := [(5, .tt), (6, .ptr 2 0), (18, slV q 5), (25, .sbuf 6 1 0 z.W.length), (26, .int .i64 (c : Int)), (27, .int .i64 (p : Int))]
abbrev PJ (bb : Bool) (N : Nat) (o : Nat → Int × Int × Bool × Bool) (z : EW) (ρ : Nat → Nat × Nat) (w : World) (I : Act → World → Prop) (q : Option (List Int)) (c p : Nat) : Prop :=
  ∀ cs TT H, Sub (FEnv Tryz.prog XTme.TE hXTme.te Tryz.f11 Tryz.f11.ntmps [scE bb N o, pinE RTV] (Is .tt [scE bb N o, pinE RTV]) ρ w) TT H (plU z q c p) (evF bb N o z q [wdE z.W]) → SS hXTme (At ρ w) (Is .tt [scE bb N o, pinE RTV]) ⟨cs, [], Tryz.f11, Tryz.f11.ntmps, [scE bb N o, pinE RTV], downLp (contF Tryz.f11 60 [I]), TT, H⟩
abbrev PG (bb : Bool) (N : Nat) (o : Nat → Int × Int × Bool × Bool) (z : EW) (ρ : Nat → Nat × Nat) (w : World) (I : Act → World → Prop) (q : Option (List Int)) (c p : Nat) : Prop :=
  SS hXTme (At ρ w) (Is .tt [scE bb N o, pinE RTV]) ⟨[], [], Tryz.f11, Tryz.f11.ntmps, [scE bb N o, pinE RTV], contF Tryz.f11 60 [I], plU z q c p, evF bb N o z q [wdE z.W]⟩
set_option maxHeartbeats 4000000 in
theorem plna {m : Int} (b : BI z.T z.R m z.W z.st) {c p : Nat} (hp : p < z.T) (hc : c ≤ p) (hK : isK (z.W.getD (eP p) 0) = false) (J : PJ bb N o z ρ w I (none) c (p + 1)) : PG bb N o z ρ w I (none) c p := by
  obtain ⟨T, R, W, st, kd, wd, vl, ch, L⟩ := z
  dsimp only at *
  have t1 := b.t1
  have t4 := b.t4
  have hr := right_TR b.t1 b.t4 b.r1 b.r8
  have hl := b.hl
  have en := ent_at (R := R) hp
  have el := eP_lt' hl hp
  have w0 := (b.hw (eP p)).1
  have w1 := (b.hw (eP p)).2
  have hp1 : (p : Int) < (T : Int) := by omega
  have ewp : IntKind.i64.wrap ((p : Int) + 1) = ((p + 1 : Nat) : Int) := by rw [wi64 (by omega) (by omega)]; omega
  have ewc : IntKind.i64.wrap ((c : Int) + 1) = ((c + 1 : Nat) : Int) := by rw [wi64 (by omega) (by omega)]; omega
  have kyv : kyW (W.getD (eP p) 0) = 0 := by unfold kyW; rw [hK]; rfl
  have hX := hXTme
  dsimp only [PG, plU, evF, slV, slE]
  refine sx hX [] 4000 rfl (by (simp [-List.getD_eq_getElem?_getD, -List.length_eq_zero_iff, conjP])) ?_
  refine sx hX [.T] 4000 rfl (by (simp [-List.getD_eq_getElem?_getD, -List.length_eq_zero_iff, conjP, hr, en, el, w0, w1, hp1, Int.toNat_natCast, cellOff] <;> (first | omega | ((repeat' (refine And.intro ?_ ?_)) <;> (first | omega | exact decide_eq_false (by omega) | exact decide_eq_true (by omega)))))) ?_
  refine sx hX [.F] 4000 rfl (by (simp [-List.getD_eq_getElem?_getD, -List.length_eq_zero_iff, conjP, addOP, en, hK, Int.toNat_natCast, cellOff])) ?_
  refine sx hX [.F] 4000 rfl (by (simp [-List.getD_eq_getElem?_getD, -List.length_eq_zero_iff, conjP, addOP, en, hK, Int.toNat_natCast, cellOff])) ?_
  (refine J _ _ _ (sub_of [0, 1, 2, 3, 4, 5, 6] rfl rfl rfl (by cases bb <;> rfl) ?tt ?hh ?ot ?ok); (case tt => simp only [ewp]; exact clhE); (case hh => exact clhE); (case ot => exact clkE); (case ok => exact clkE))
set_option maxHeartbeats 4000000 in
theorem plsa {m : Int} (b : BI z.T z.R m z.W z.st) {c p : Nat} (hp : p < z.T) (hc : c ≤ p) {l : List Int} (hll : l.length < 1000) (hK : isK (z.W.getD (eP p) 0) = false) (J : PJ bb N o z ρ w I (some l) c (p + 1)) : PG bb N o z ρ w I (some l) c p := by
  obtain ⟨T, R, W, st, kd, wd, vl, ch, L⟩ := z
  dsimp only at *
  have t1 := b.t1
  have t4 := b.t4
  have hr := right_TR b.t1 b.t4 b.r1 b.r8
  have hl := b.hl
  have en := ent_at (R := R) hp
  have el := eP_lt' hl hp
  have w0 := (b.hw (eP p)).1
  have w1 := (b.hw (eP p)).2
  have hp1 : (p : Int) < (T : Int) := by omega
  have ewp : IntKind.i64.wrap ((p : Int) + 1) = ((p + 1 : Nat) : Int) := by rw [wi64 (by omega) (by omega)]; omega
  have ewc : IntKind.i64.wrap ((c : Int) + 1) = ((c + 1 : Nat) : Int) := by rw [wi64 (by omega) (by omega)]; omega
  have kyv : kyW (W.getD (eP p) 0) = 0 := by unfold kyW; rw [hK]; rfl
  have hll2 : l.length < 1000000 := by omega
  have hX := hXTme
  dsimp only [PG, plU, evF, slV, slE]
  refine sx hX [] 4000 rfl (by (simp [-List.getD_eq_getElem?_getD, -List.length_eq_zero_iff, conjP])) ?_
  refine sx hX [.T] 4000 rfl (by (simp [-List.getD_eq_getElem?_getD, -List.length_eq_zero_iff, conjP, hr, en, el, w0, w1, hp1, Int.toNat_natCast, cellOff] <;> (first | omega | ((repeat' (refine And.intro ?_ ?_)) <;> (first | omega | exact decide_eq_false (by omega) | exact decide_eq_true (by omega)))))) ?_
  refine sx hX [.F] 4000 rfl (by (simp [-List.getD_eq_getElem?_getD, -List.length_eq_zero_iff, conjP, addOP, en, hK, Int.toNat_natCast, cellOff])) ?_
  refine sx hX [.F] 4000 rfl (by (simp [-List.getD_eq_getElem?_getD, -List.length_eq_zero_iff, conjP, addOP, en, hK, Int.toNat_natCast, cellOff])) ?_
  (refine J _ _ _ (sub_of [0, 1, 2, 3, 4, 5, 6] rfl rfl rfl (by cases bb <;> rfl) ?tt ?hh ?ot ?ok); (case tt => simp only [ewp]; exact clhE); (case hh => exact clhE); (case ot => exact clkE); (case ok => exact clkE))
set_option maxHeartbeats 4000000 in
theorem plst {m : Int} (b : BI z.T z.R m z.W z.st) {c p : Nat} (hp : p < z.T) (hc : c ≤ p) {l : List Int} (hll : l.length < 1000) (hh : hasL l (z.W.getD (eP p) 0 / 4) = true) (hK : isK (z.W.getD (eP p) 0) = true) (J : PJ bb N o z ρ w I (some l) (c + 1) (p + 1)) : PG bb N o z ρ w I (some l) c p := by
  obtain ⟨T, R, W, st, kd, wd, vl, ch, L⟩ := z
  dsimp only at *
  have t1 := b.t1
  have t4 := b.t4
  have hr := right_TR b.t1 b.t4 b.r1 b.r8
  have hl := b.hl
  have en := ent_at (R := R) hp
  have el := eP_lt' hl hp
  have w0 := (b.hw (eP p)).1
  have w1 := (b.hw (eP p)).2
  have hp1 : (p : Int) < (T : Int) := by omega
  have ewp : IntKind.i64.wrap ((p : Int) + 1) = ((p + 1 : Nat) : Int) := by rw [wi64 (by omega) (by omega)]; omega
  have ewc : IntKind.i64.wrap ((c : Int) + 1) = ((c + 1 : Nat) : Int) := by rw [wi64 (by omega) (by omega)]; omega
  have kyv : kyW (W.getD (eP p) 0) = W.getD (eP p) 0 / 4 := by unfold kyW; rw [hK]; rfl
  have hll2 : l.length < 1000000 := by omega
  have hX := hXTme
  dsimp only [PG, plU, evF, slV, slE]
  refine sx hX [] 4000 rfl (by (simp [-List.getD_eq_getElem?_getD, -List.length_eq_zero_iff, conjP])) ?_
  refine sx hX [.T] 4000 rfl (by (simp [-List.getD_eq_getElem?_getD, -List.length_eq_zero_iff, conjP, hr, en, el, w0, w1, hp1, Int.toNat_natCast, cellOff] <;> (first | omega | ((repeat' (refine And.intro ?_ ?_)) <;> (first | omega | exact decide_eq_false (by omega) | exact decide_eq_true (by omega)))))) ?_
  refine sx hX [.T] 4000 rfl (by (simp [-List.getD_eq_getElem?_getD, -List.length_eq_zero_iff, conjP, en, hK, hll2, Int.toNat_natCast, cellOff])) ?_
  refine sx hX [.F] 4000 rfl (by (simp [-List.getD_eq_getElem?_getD, -List.length_eq_zero_iff, conjP, addOP, en, kyv, hh, Int.toNat_natCast, cellOff])) ?_
  refine sx hX [.T] 4000 rfl (by (simp [-List.getD_eq_getElem?_getD, -List.length_eq_zero_iff, conjP, addOP, en, hK, Int.toNat_natCast, cellOff])) ?_
  (refine J _ _ _ (sub_of [0, 1, 2, 3, 4, 5, 6] rfl rfl rfl (by cases bb <;> rfl) ?tt ?hh ?ot ?ok); (case tt => simp only [ewp, ewc]; exact clhE); (case hh => exact clhE); (case ot => exact clkE); (case ok => exact clkE))
set_option maxHeartbeats 4000000 in
theorem plendn {m : Int} (b : BI z.T z.R m z.W z.st) {c : Nat} (hc : (c : Int) = 0) : PG bb N o z ρ w I (none) c z.T := by
  obtain ⟨T, R, W, st, kd, wd, vl, ch, L⟩ := z
  dsimp only at *
  have t1 := b.t1
  have t4 := b.t4
  have hr := right_TR b.t1 b.t4 b.r1 b.r8
  have hl := b.hl
  have hp1 : ¬ (T : Int) < (T : Int) := by omega
  have hb : ((c : Int) == 0) = true := by rw [hc]; simp
  have hX := hXTme
  dsimp only [PG, plU, evF, slV, slE]
  refine sx hX [] 4000 rfl (by (simp [-List.getD_eq_getElem?_getD, -List.length_eq_zero_iff, conjP])) ?_
  refine sx hX [.F] 4000 rfl (by (simp [-List.getD_eq_getElem?_getD, -List.length_eq_zero_iff, conjP, addOP, hp1])) ?_
  (refine ss_end hX [0, 1] rfl rfl trivial rfl rfl rfl (by cases bb <;> rfl) ?tt ?hh ?ot ?ok; (case tt => exact hb); (case hh => exact clhE); (case ot => exact clkE); (case ok => exact clkE))
set_option maxHeartbeats 4000000 in
theorem plends {m : Int} (b : BI z.T z.R m z.W z.st) {l : List Int} {c : Nat} (hc : (c : Int) = (l.length : Int)) : PG bb N o z ρ w I (some l) c z.T := by
  obtain ⟨T, R, W, st, kd, wd, vl, ch, L⟩ := z
  dsimp only at *
  have t1 := b.t1
  have t4 := b.t4
  have hr := right_TR b.t1 b.t4 b.r1 b.r8
  have hl := b.hl
  have hp1 : ¬ (T : Int) < (T : Int) := by omega
  have hb : ((c : Int) == (l.length : Int)) = true := by rw [hc]; simp
  have hX := hXTme
  dsimp only [PG, plU, evF, slV, slE]
  refine sx hX [] 4000 rfl (by (simp [-List.getD_eq_getElem?_getD, -List.length_eq_zero_iff, conjP])) ?_
  refine sx hX [.F] 4000 rfl (by (simp [-List.getD_eq_getElem?_getD, -List.length_eq_zero_iff, conjP, addOP, hp1])) ?_
  (refine ss_end hX [0, 1] rfl rfl trivial rfl rfl rfl (by cases bb <;> rfl) ?tt ?hh ?ot ?ok; (case tt => exact hb); (case hh => exact clhE); (case ot => exact clkE); (case ok => exact clkE))
/-- How many keys there are at the first places. -/
def cnt (W : List Int) (p : Nat) : Nat := (lst (kyL W p)).length
theorem cnt_le {W : List Int} : ∀ {p : Nat}, cnt W p ≤ p
  | 0 => Nat.le_refl _
  | p + 1 => by
    have := cnt_le (W := W) (p := p)
    unfold cnt at *
    rw [ky_s]
    split
    · simp; exact this
    · omega
set_option maxHeartbeats 4000000 in
theorem evfin {m : Int} (b : BI z.T z.R m z.W z.st) {sf : Int → Nat} (D : DE z.T sf z.W) (hk : ∀ k, k ∈ lst q ↔ inW z.T z.W k) (nd : (lst q).Nodup) (hln : (lst q).length < 1000) : EJ bb N o z ρ w q := by
  have hlen := ky_len D nd hk
  have t4 := b.t4
  have hl5 : z.W.length ≤ 5000 := by have := b.hl; omega
  have hX := hXTme
  dsimp only [EJ, evE, evF]
  refine sxb hX [.l] [] 4000 rfl (by first | exact trivial | simp [conjP, hl5]) ?_
  refine ss_sub hX (T' := plU z q (cnt z.W 0) 0) (H' := evF bb N o z q [wdE z.W]) [0, 1, 2, 3, 4, 5, 6] rfl rfl rfl (by cases bb <;> rfl) (by exact clhE) (by exact clhE) (by exact clkE) (by exact clkE) ?_
  refine ss_loop hX (fun p => plU z q (cnt z.W p) p) (fun _ => evF bb N o z q [wdE z.W]) (fun p => p ≤ z.T) (fun p => z.T - p) 0 (Nat.zero_le _) ?_
  intro p hp I back
  have hp : p ≤ z.T := hp
  refine sxb hX [.r 60] [] 100 rfl trivial ?_
  have hcl := cnt_le (W := z.W) (p := p)
  by_cases hlt : p < z.T
  · have bk : PJ bb N o z ρ w I q (cnt z.W (p + 1)) (p + 1) := fun cs TT H hsub => ss_sw hX (sw_ss hX (back (p + 1) (by show p + 1 ≤ z.T; omega) (by show z.T - (p + 1) < z.T - p; omega) cs TT H hsub))
    have e := ky_s (W := z.W) (p := p)
    rcases hK : isK (z.W.getD (eP p) 0) with _ | _
    · rw [if_neg (by rw [hK]; decide)] at e
      have e : cnt z.W (p + 1) = cnt z.W p := by unfold cnt; rw [e]
      rw [e] at bk
      rcases q with _ | l
      · exact plna b hlt hcl hK bk
      · exact plsa b hlt hcl hln hK bk
    · rw [if_pos hK] at e
      have e : cnt z.W (p + 1) = cnt z.W p + 1 := by unfold cnt; rw [e]; simp
      rw [e] at bk
      have hm := (hk _).2 ⟨p, hlt, hK, rfl⟩
      rcases q with _ | l
      · cases hm
      · exact plst b hlt hcl hln (hasL_iff.2 hm) hK bk
  · obtain rfl : p = z.T := by omega
    rcases q with _ | l
    · exact plendn b (by have : cnt z.W z.T = 0 := hlen.symm; omega)
    · exact plends b (by have : cnt z.W z.T = l.length := hlen.symm; omega)
end
end Go.Proofs.YtkkddjchkkaagaaGreatDoor

/- TopicsMap: what took effect, one behind the other: all of it; and then what is there. -/
namespace Go.Proofs.YtkkddjchkkaagaaGreatDoor
open Go Go.Hx
set_option maxRecDepth 8000
theorem tgO_len {l : List Int} {n : Int} : (lst (tgO l n)).length ≤ l.length + 1 := by
  unfold tgO
  split
  · rename_i h; simp [lst] at h ⊢; omega
  · have := fO_len (l := l) (n := n) (i := l.length); omega
theorem evR_len {T : Nat} {q q2 : Option (List Int)} {e : EvT} (h : evR T q e = some q2) : (lst q2).length ≤ (lst q).length + 1 := by
  unfold evR at h
  repeat' split at h
  all_goals first | (cases h; done) | (cases h; exact tgO_len) | (cases h; omega)
section
variable {bb : Bool} {N : Nat} {o : Nat → Int × Int × Bool × Bool} {z : EW} {q : Option (List Int)} {last : Int} {n : Nat} {ρ : Nat → Nat × Nat} {w : World} {I I2 : Act → World → Prop}
theorem evcase {e : EvT} {q2 : Option (List Int)} (t1 : 1 ≤ z.T) (hn : n < z.L.length) (hl : z.L.length ≤ 320) (ln : (lst q).length < 1000) (h : evR z.T q e = some q2) (J : OJ bb N o z ρ w I q2 e.tm (n + 1)) : RG bb N o z ρ w I q n e.tm e.key e.op e.er := by
  unfold evR at h
  by_cases e0 : e.er = 0
  · rw [if_pos e0] at h
    split at h
    · cases h
    · rename_i g
      cases h
      rcases q with _ | l
      · have g3 : e.op = 0 := by
          by_cases g3 : e.op = 0
          · exact g3
          · exact absurd (show hasL (lst none) e.key = decide (e.op = 0) by rw [decide_eq_false g3]; rfl) g
        exact evra hn hl e0 g3 J
      · by_cases g3 : e.op = 0
        · refine evrc hn hl ln ?_ e0 g3 J
          rw [decide_eq_true g3] at g
          exact eq_false_of_ne_true g
        · refine evrd hn hl ln ?_ e0 g3 J
          rw [decide_eq_false g3] at g
          exact eq_true_of_ne_false g
  · rw [if_neg e0] at h
    by_cases e1 : e.er = 14
    · rw [if_pos e1] at h
      split at h
      · rename_i g
        cases h
        rcases q with _ | l
        · cases g
        · exact evre hn hl ln g e1 J
      · cases h
    · rw [if_neg e1] at h
      by_cases e2 : e.er = 12
      · rw [if_pos e2] at h
        split at h
        · cases h
        · rename_i g
          cases h
          rcases q with _ | l
          · exact evrb hn hl e2 J
          · exact evrf hn hl ln (eq_false_of_ne_true g) e2 J
      · rw [if_neg e2] at h
        by_cases e3 : e.er = 15
        · rw [if_pos e3] at h
          split at h
          · rename_i g
            cases h
            rcases q with _ | l
            · have : (0 : Nat) = z.T := g.2
              omega
            · exact evrg hn hl ln g.1 e3 (by have : l.length = z.T := g.2; omega) J
          · cases h
        · rw [if_neg e3] at h; cases h
structure YS where
  (n : Nat) (G1 G2 : List EvT) (last : Int) (q : Option (List Int))
structure YInv (z : EW) (G : List EvT) (y : YS) : Prop where
  rd : RD z.T z.L y.G1 y.G2 y.last y.q
  g : y.G1 ++ y.G2 = G
  hn : y.G1.length = y.n
  hq : (lst y.q).length ≤ y.n
def evSt (z : EW) : List (Nat × SV) := [(5, .tt), (6, .ptr 2 0), (7, .ptr 3 0), (10, .sbuf 5 4 0 z.L.length)]
set_option maxHeartbeats 4000000 in
theorem evall (t1 : 1 ≤ z.T) (hl : z.L.length ≤ 320) {G : List EvT} (rd : RD z.T z.L [] G 0 none) (fin : ∀ q, evA z.T none G = some q → (lst q).length < 1000 → EJ bb N o z ρ w q) :
    SS hXTme (At ρ w) (Is .tt [scE bb N o, pinE RTV]) ⟨[], [], Tryz.f11, Tryz.f11.ntmps, [scE bb N o, pinE RTV], contF Tryz.f11 27 [], evSt z, evG bb N o z none []⟩ := by
  have hX := hXTme
  dsimp only [evSt, evG]
  refine sxb hX [.l] [] 4000 rfl trivial ?_
  refine ss_sub hX (T' := evO z none 0 0) (H' := evG bb N o z none []) [0, 1, 2, 3, 4, 5, 6] rfl rfl rfl (by cases bb <;> rfl) (by exact clhE) (by exact clhE) (by exact clkE) (by exact clkE) ?_
  refine ss_loop hX (fun y : YS => evO z y.q y.last y.n) (fun y => evG bb N o z y.q []) (YInv z G) (fun y => z.L.length - y.n) ⟨0, [], G, 0, none⟩ ⟨rd, rfl, rfl, Nat.le_refl _⟩ ?_
  intro y hy I back
  have rdy := hy.rd
  have hlen := rd_len rdy
  rw [List.length_append, hy.hn] at hlen
  have hq := hy.hq
  refine sxb hX [.r 30] [] 100 rfl trivial ?_
  by_cases hn : y.n < z.L.length
  · refine evgo hn ?_
    dsimp only [evM, evG]
    refine sxb hX [.l] [] 4000 rfl trivial ?_
    refine ss_sub hX (T' := evN z y.q y.last y.n (nxF (fT z.L) y.last 0) 0) (H' := evG bb N o z y.q []) [0, 1, 2, 3, 4, 5, 6] rfl rfl rfl (by cases bb <;> rfl) (by exact clhE) (by exact clhE) (by exact clkE) (by exact clkE) ?_
    refine ss_loop hX (fun j => evN z y.q y.last y.n (nxF (fT z.L) y.last j) j) (fun _ => evG bb N o z y.q []) (fun j => j ≤ z.L.length) (fun j => z.L.length - j) 0 (Nat.zero_le _) ?_
    intro j hj I2 bk
    have hj : j ≤ z.L.length := hj
    refine sxb hX [.r 34] [] 100 rfl trivial ?_
    by_cases hlt : j < z.L.length
    · have bk' : NJ bb N o z y.q y.last y.n ρ w I2 I (nxF (fT z.L) y.last (j + 1)) (j + 1) := fun cs TT H hsub => ss_sw hX (sw_ss hX (bk (j + 1) (by show j + 1 ≤ z.L.length; omega) (by show z.L.length - (j + 1) < z.L.length - j; omega) cs TT H hsub))
      unfold nxF at bk'
      by_cases g : y.last < fT z.L j
      · rcases nx_law (fT z.L) y.last j with ⟨e, _⟩ | ⟨p, hp, e, _, _⟩
        · rw [e] at bk' ⊢
          rw [if_pos ⟨g, .inl (by decide)⟩] at bk'
          exact nxb hlt hl (by decide) g bk'
        · rw [e] at bk' ⊢
          rw [Int.toNat_natCast] at bk'
          by_cases g2 : fT z.L j < fT z.L p
          · rw [if_pos ⟨g, .inr g2⟩] at bk'
            exact nxc hlt hl (by omega) g g2 bk'
          · rw [if_neg (fun q => by rcases q.2 with r | r <;> omega)] at bk'
            exact nxd hlt hl (by omega) g g2 bk'
      · rw [if_neg (fun q => g q.1)] at bk'
        exact nxa hlt hl (by rcases nx_law (fT z.L) y.last j with ⟨e, _⟩ | ⟨p, hp, e, _, _⟩ <;> omega) g bk'
    · obtain rfl : j = z.L.length := by omega
      have hf : ∀ j (h : j < z.L.length), fT z.L j = (z.L[j]).tm := fun j h => (flE_at h).1
      obtain ⟨n, G1, G2, last, q⟩ := y
      have hg := hy.g
      have hyn := hy.hn
      dsimp only at rdy hlen hq hn bk hg hyn ⊢
      rcases G2 with _ | ⟨e, G2⟩
      · rw [rd_end rdy hf]
        refine evbrk (fin q ?_ (by omega))
        have := rdy.run1
        rw [List.append_nil] at hg
        rw [← hg]; exact this
      · obtain ⟨p, hp, e1, e2⟩ := rd_next rdy hf
        rw [e1]
        refine evrow hp ?_
        obtain ⟨a0, a1, a2, a3⟩ := flE_at hp
        rw [e2] at a0 a1 a2 a3
        have a0 : fT z.L p = e.tm := a0
        have a1 : kT z.L p = e.key := a1
        have a2 : oT z.L p = e.op := a2
        have a3 : rT z.L p = e.er := a3
        rw [a0, a1, a2, a3]
        obtain ⟨q2, h1, h2⟩ := rd_step rdy
        have h3 := evR_len h1
        exact evcase t1 hn hl (by omega) h1 (fun cs TT H hsub => ss_sw hX (sw_ss hX (back ⟨n + 1, G1 ++ [e], G2, e.tm, q2⟩ ⟨h2, by rw [← hg]; simp, by simp; omega, by dsimp only; omega⟩ (by dsimp only; omega) cs TT H hsub)))
  · obtain ⟨n, G1, G2, last, q⟩ := y
    have hg := hy.g
    dsimp only at rdy hlen hq hn hg ⊢
    obtain rfl : G2 = [] := List.length_eq_zero_iff.1 (by omega)
    refine evstop (by omega) (fin q ?_ (by omega))
    have := rdy.run1
    rw [List.append_nil] at hg
    rw [← hg]; exact this
end
section
variable {bb : Bool} {T : Nat} {R : Int} {N : Nat} {o : Nat → Int × Int × Bool × Bool} {ρ : Nat → Nat × Nat} {w : World} {L : List EvT} {m : Int}
def evZ : List (Nat × SV) := [(5, .tt), (6, .ptr 2 0), (7, .ptr 3 0), (10, .nilslice), (18, .nilslice), (20, .int .i64 0)]
def umE (L : List EvT) : List (Nat × SV) := [(5, .tt), (6, .ptr 2 0), (7, .ptr 3 0), (10, lgV L 15)]
set_option maxHeartbeats 4000000 in
/-- Behind the turns. -/
theorem um_fin {z : Tq} (b : BI T R m z.W z.st) (D : DInv T (sfT T R) z.W (cf3 none none none)) (mg : ∃ G q, MG T z.W (cf3 none none none) z.st L G q) (hl : L.length ≤ 320) :
    SS hXTme (At ρ w) (Is .tt [scE bb N o, pinE RTV]) ⟨[], [], Tryz.f11, Tryz.f11.ntmps, [scE bb N o, pinE RTV], contF Tryz.f11 27 [], umE L, tqH (scE bb N o) T R z [lgE L]⟩ := by
  obtain ⟨G, q, mg⟩ := mg
  have hn : ∀ a, cf3 none none none a = none := fun a => by rcases a with _ | _ | _ | a <;> rfl
  have rd := mg_rd mg hn
  have hk := mg_end mg hn
  have fin : ∀ q', evA T none G = some q' → (lst q').length < 1000 → EJ bb N o ⟨T, R, z.W, z.st, z.kd, z.wd, z.vl, z.ch, L⟩ ρ w q' := fun q' h hln => by
    have e := mg.run
    rw [h] at e
    cases e
    exact evfin b D.de hk mg.nd hln
  by_cases hL : L = []
  · subst hL
    have hg := rd_len rd
    have hg : G = [] := List.length_eq_zero_iff.1 (by simpa using hg)
    subst hg
    have J := fin none rfl (by decide)
    have hX := hXTme
    dsimp only [EJ, evE, evF] at J
    dsimp only [umE, tqH]
    refine sxb hX [.l] [] 4000 rfl trivial ?_
    refine ss_sub hX (T' := evZ) (H' := evF bb N o ⟨T, R, z.W, z.st, z.kd, z.wd, z.vl, z.ch, []⟩ none []) [0, 1, 2, 3, 4, 15] rfl rfl rfl (by cases bb <;> rfl) (by exact clhE) (by exact clhE) (by exact clkE) (by exact clkE) ?_
    refine ss_loop hX (fun _ : Unit => evZ) (fun _ => evF bb N o ⟨T, R, z.W, z.st, z.kd, z.wd, z.vl, z.ch, []⟩ none []) (fun _ => True) (fun _ => 0) () trivial ?_
    intro _ _ I _
    refine sxb hX [.r 30] [] 100 rfl trivial ?_
    dsimp only [evZ, evF]
    refine sxb hX [.r 57] [] 4000 rfl (by (simp [-List.getD_eq_getElem?_getD, -List.length_eq_zero_iff, conjP])) ?_
    refine sxb hX [.r 57] [.F] 4000 rfl (by (simp [-List.getD_eq_getElem?_getD, -List.length_eq_zero_iff, conjP, addOP])) ?_
    (refine ss_sub hX (T' := evE none) (H' := evF bb N o ⟨T, R, z.W, z.st, z.kd, z.wd, z.vl, z.ch, []⟩ none []) [0, 1, 2, 3, 4, 5] rfl rfl rfl (by cases bb <;> rfl) ?tt ?hh ?ot ?ok J; (case tt => exact clhE); (case hh => exact clhE); (case ot => exact clkE); (case ok => exact clkE))
  · have J := evall (bb := bb) (N := N) (o := o) (ρ := ρ) (w := w) (z := ⟨T, R, z.W, z.st, z.kd, z.wd, z.vl, z.ch, L⟩) b.t1 hl rd fin
    have hX := hXTme
    obtain ⟨g1, g2⟩ := lg_some (h := 15) hL
    dsimp only [umE, tqH]
    rw [g1, g2]
    exact ss_sub hX (T' := evSt ⟨T, R, z.W, z.st, z.kd, z.wd, z.vl, z.ch, L⟩) (H' := evG bb N o ⟨T, R, z.W, z.st, z.kd, z.wd, z.vl, z.ch, L⟩ none []) [0, 1, 2, 3, 4, 15, 5] rfl rfl rfl (by cases bb <;> rfl) (by exact clhE) (by exact clhE) (by exact clkE) (by exact clkE) J
end
end Go.Proofs.YtkkddjchkkaagaaGreatDoor
