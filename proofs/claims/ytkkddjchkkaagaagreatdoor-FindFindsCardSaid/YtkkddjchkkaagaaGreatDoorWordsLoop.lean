/- FindFinds: the words of a directory: the walk. -/
import Derived.Test.YtkkddjchkkaagaaGreatDoorFindsLaw
import Derived.Test.YtkkddjchkkaagaaGreatDoorPlaysWorld
import Derived.Test.YtkkddjchkkaagaaGreatDoorHas
import Derived.Test.YtkkddjchkkaagaaGreatDoorRefArena

namespace Go.Proofs.YtkkddjchkkaagaaGreatDoor
open Go Go.Hx
set_option maxRecDepth 8000
def ctWd : Nat → Option Hx.Spec
  | 34 => some (rmakeS)
  | 37 => some (hasS)
  | 110 => some (pureS rstartS)
  | 102 => some (pureS rentS)
  | 38 => some (pureS rkeyS)
  | 42 => some (pureS (placeS entryF))
  | 45 => some (pureS (placeS ctlF))
  | 43 => some (pureS rcpkS)
  | _ => none
theorem ctWd_ok : ∀ f s args H ob V L, ctWd f = some s → s args H = some (ob, V, L) → AllP ob → Gives Tryz.prog f args H (Is V L) := by
  intro f s args H ob V L h hs ho
  unfold ctWd at h
  split at h
  · simp at h; subst h; exact rmakeS_ok hs ho
  · simp at h; subst h; exact hasS_ok hs ho
  · simp at h; subst h; exact pureS_ok ⟨_, hTE⟩ (rstartS_ok) hs ho
  · simp at h; subst h; exact pureS_ok ⟨_, hTE⟩ (rentS_ok) hs ho
  · simp at h; subst h; exact pureS_ok ⟨_, hTE⟩ (rkeyS_ok) hs ho
  · simp at h; subst h; exact pureS_ok ⟨_, hTE⟩ (placeS_ok (v := entryF) rentry_fn) hs ho
  · simp at h; subst h; exact pureS_ok ⟨_, hTE⟩ (placeS_ok (v := ctlF) rctl_fn) hs ho
  · simp at h; subst h; exact pureS_ok ⟨_, hTE⟩ (rcpkS_ok) hs ho
  · simp at h
noncomputable def XWd : Tabs := tabs tr ft xt (fun _ => none) ctWd 0
theorem hXWd : TOk Tryz.prog (XWd) := ⟨hTE, hFT, ctWd_ok, hXT, fun t ks h => by simp [XWd, tabs] at h, mixed⟩
abbrev cfW (T R : Int) : HE := .obj (.cells [.int .i64 T, .int .i64 4, .int .i64 1, .int .i64 2, .int .i64 4, .int .i64 1, .int .i64 6, .int .i64 0, .int .i64 R] 43)
abbrev dirW (kv : SV) (g : Int) : HE := .obj (.cells [kv, .int .i64 g] 68)
def sfV (T : Nat) (R k : Int) : Nat := (startV (T : Int) 4 1 2 4 1 6 0 R k).toNat
def W0V (T : Nat) (R : Int) : List Int := (mkA (T : Int) 4 1 2 4 1 6 0 R).W
/-- What is laid, of so many keys; and what is left of it. -/
def mZ (z : List Int) : Nat := min z.length 8
def laidV (T : Nat) (R : Int) (z : List Int) : List Int × List Int := stK T (sfV T R) (W0V T R) z (mZ z)
def leftV (T : Nat) (R : Int) (z : List Int) (gB : Nat → Bool) : List Int × List Int := rmK T gB (laidV T R z).1 (laidV T R z).2 (laidV T R z).2.length
def wdV (T : Nat) (R : Int) (z : List Int) (gB : Nat → Bool) : SV := .tup [.slice 1 0 (leftV T R z gB).1.length (leftV T R z gB).1.length, slV (opL (leftV T R z gB).2) 2]
def wdL (T : Nat) (R : Int) (z : List Int) (gB : Nat → Bool) : List HE := [.obj (.winI .i64 z), WO (leftV T R z gB).1, slE (opL (leftV T R z gB).2) .i64 3]
theorem len_set2 {W : List Int} {a c : Nat} {b d : Int} : W.length = ((W.set a b).set c d).length := by simp
theorem len_app {l : List Int} {k : Int} : l.length + 1 = (l ++ [k]).length := by simp
theorem clhW {P : Prop} (h : P := by repeat' (first | exact rfl | exact trivial | exact sim_refl _ | exact simO_refl _ | exact sim_slVr rfl | exact subE_same rfl ren_slE | exact List.length_set.symm | exact List.length_set | exact len_set2 | exact len_app | assumption | refine And.intro ?_ ?_)) : P := h
theorem clkW {P : Prop} (h : P := by repeat' (first | exact rfl | exact trivial | exact okE_slE | exact okP_slV rfl | refine And.intro ?_ ?_)) : P := h
structure WQ where
  (i : Nat) (W : List Int) (q : Option (List Int))
def wdT (_N : Nat) (x : WQ) : List (Nat × SV) := [(2, .ptr 1 0), (3, .ptr 2 0), (4, .nilslice), (5, .nilslice), (6, .slice 3 0 x.W.length x.W.length), (7, slV x.q 4), (8, .int .i64 (x.i : Int))]
def wdH (T : Nat) (R g : Int) (z : List Int) (N cap : Nat) (W : List Int) (q : Option (List Int)) : List HE := [.obj (.winI .i64 z), dirW (.slice 0 0 N cap) g, cfW T R, WO W, slE q .i64 3]
def wdT2 (T : Nat) (R k : Int) (x : WQ) (j : Nat) : List (Nat × SV) := [(2, .ptr 1 0), (3, .ptr 2 0), (4, .nilslice), (5, .nilslice), (6, .slice 3 0 x.W.length x.W.length), (7, slV x.q 4), (8, .int .i64 (x.i : Int)), (9, .int .i64 k), (10, .int .i64 (sfV T R k : Int)), (11, .int .i64 (j : Int))]
theorem bk_at (k : Int) (h : 0 ≤ k) : (k.tmod 2 == 1) = bK k := by
  rw [Int.tmod_eq_emod_of_nonneg h]; rfl

section
variable {T : Nat} {R g : Int} {z : List Int} {N cap : Nat} {gB : Nat → Bool} {ρ : Nat → Nat × Nat} {w : World} {x : WQ} {I I2 : Act → World → Prop}
abbrev WJ (T : Nat) (R g : Int) (z : List Int) (N cap : Nat) (gB : Nat → Bool) (ρ : Nat → Nat × Nat) (w : World) (I : Act → World → Prop) (x : WQ) : Prop :=
  ∀ cs TT H, Sub (FEnv Tryz.prog XWd.TE hXWd.te Tryz.f35 Tryz.f35.ntmps [.obj (.winI .i64 z)] (Is (wdV T R z gB) (wdL T R z gB)) ρ w) TT H (wdT N x) (wdH T R g z N cap x.W x.q) →
    SS hXWd (At ρ w) (Is (wdV T R z gB) (wdL T R z gB)) ⟨cs, [], Tryz.f35, Tryz.f35.ntmps, [.obj (.winI .i64 z)], downLq (contF Tryz.f35 4 [I]), TT, H⟩
abbrev WJ2 (T : Nat) (R g k : Int) (z : List Int) (N cap : Nat) (gB : Nat → Bool) (ρ : Nat → Nat × Nat) (w : World) (I I2 : Act → World → Prop) (x : WQ) (j : Nat) : Prop :=
  ∀ cs TT H, Sub (FEnv Tryz.prog XWd.TE hXWd.te Tryz.f35 Tryz.f35.ntmps [.obj (.winI .i64 z)] (Is (wdV T R z gB) (wdL T R z gB)) ρ w) TT H (wdT2 T R k x j) (wdH T R g z N cap x.W x.q) →
    SS hXWd (At ρ w) (Is (wdV T R z gB) (wdL T R z gB)) ⟨cs, [], Tryz.f35, Tryz.f35.ntmps, [.obj (.winI .i64 z)], downLq (contF Tryz.f35 10 [I, I2]), TT, H⟩
abbrev WG (T : Nat) (R g : Int) (z : List Int) (N cap : Nat) (gB : Nat → Bool) (ρ : Nat → Nat × Nat) (w : World) (I : Act → World → Prop) (x : WQ) : Prop :=
  SS hXWd (At ρ w) (Is (wdV T R z gB) (wdL T R z gB)) ⟨[], [], Tryz.f35, Tryz.f35.ntmps, [.obj (.winI .i64 z)], contF Tryz.f35 4 [I], wdT N x, wdH T R g z N cap x.W x.q⟩
abbrev WG2 (T : Nat) (R g k : Int) (z : List Int) (N cap : Nat) (gB : Nat → Bool) (ρ : Nat → Nat × Nat) (w : World) (I I2 : Act → World → Prop) (x : WQ) (j : Nat) : Prop :=
  SS hXWd (At ρ w) (Is (wdV T R z gB) (wdL T R z gB)) ⟨[], [], Tryz.f35, Tryz.f35.ntmps, [.obj (.winI .i64 z)], contF Tryz.f35 10 [I, I2], wdT2 T R k x j, wdH T R g z N cap x.W x.q⟩
set_option maxHeartbeats 4000000 in
theorem wputn (hr : rightB (T : Int) 4 1 2 4 1 6 0 R = true) (t1 : 1 ≤ T) (t8 : T ≤ 8) (hl : x.W.length = 11 + 10 * T) (hbd : ∀ j, 0 ≤ x.W.getD j 0 ∧ x.W.getD j 0 < 18446744073709551616) {k : Int} (k1 : 1 ≤ k) (k2 : k ≤ 20) (hs : sfV T R k < T) {j : Nat} (hj : j < T) (hq : x.q = none)  (hi : x.i < 8) (h0 : x.W.getD (fP (fPl T (sfV T R k) j)) 0 < 2)
    (J : WJ T R g z N cap gB ρ w I ⟨x.i + 1, putK T x.W (fPl T (sfV T R k) j) k, some [k]⟩) : WG2 T R g k z N cap gB ρ w I I2 x j := by
  obtain ⟨i, W, q⟩ := x
  dsimp only at hl hbd hq hi h0
  subst hq
  have hX := hXWd
  have hp : fPl T (sfV T R k) j < T := fPl_lt t1
  have pa := fpl_at hs hj t8
  have en := fent_at (R := R) hp
  have cn := fctl_at (R := R) hp
  have el := fP_lt' hl hp
  have cq2 := gP_lt' hl hp
  have h1 : (j : Int) < (T : Int) := by omega
  have hb0 := (hbd (fP (fPl T (sfV T R k) j))).1
  have hk7 : k ≤ 2147483647 := by omega
  have hk5 : k < 32768 := by omega
  have hk0 : 0 ≤ k := by omega
  have ebk := bk_at k hk0
  have eek : enK k (bK k) = eK k := rfl
  have ewi : IntKind.i64.wrap ((i : Int) + 1) = ((i + 1 : Nat) : Int) := by rw [wi64 (by omega) (by omega)]; omega
  have tsz : (XWd.TE 3).size = 1 := rfl
  dsimp only [WG2, wdT2, wdH, slV, slE]
  unfold WJ at J
  dsimp only [wdT, wdH, putK, slV, slE] at J
  refine sx hX [] 4000 rfl (by (simp [-List.getD_eq_getElem?_getD, -List.length_eq_zero_iff, conjP])) ?_
  refine sx hX [.T] 4000 rfl (by (simp [-List.getD_eq_getElem?_getD, -List.length_eq_zero_iff, conjP, h1, pa, en, el, hr, Int.toNat_natCast] <;> (first | omega | ((repeat' (refine And.intro ?_ ?_)) <;> (first | omega | exact decide_eq_false (by omega) | exact decide_eq_true (by omega)))))) ?_
  refine sx hX [.T] 4000 rfl (by (simp [-List.getD_eq_getElem?_getD, -List.length_eq_zero_iff, conjP, pa, en, cn, el, cq2, h0, k1, hk7, hk5, hk0, hr, ebk, eek, Int.toNat_natCast] <;> (first | omega | ((repeat' (refine And.intro ?_ ?_)) <;> (first | omega | exact decide_eq_false (by omega) | exact decide_eq_true (by omega)))))) ?_
  (refine J _ _ _ (sub_of [0, 1, 2, 3, 6] rfl rfl rfl rfl ?tt ?hh ?ot ?ok); (case tt => (try simp only [ewi]); exact clhW); (case hh => (try simp only [pa, en, cn, ebk, eek, Int.toNat_natCast, Nat.add_zero]); exact clhW); (case ot => exact clkW); (case ok => exact clkW))
set_option maxHeartbeats 4000000 in
theorem wputs (hr : rightB (T : Int) 4 1 2 4 1 6 0 R = true) (t1 : 1 ≤ T) (t8 : T ≤ 8) (hl : x.W.length = 11 + 10 * T) (hbd : ∀ j, 0 ≤ x.W.getD j 0 ∧ x.W.getD j 0 < 18446744073709551616) {k : Int} (k1 : 1 ≤ k) (k2 : k ≤ 20) (hs : sfV T R k < T) {j : Nat} (hj : j < T) {l : List Int} (hq : x.q = some l) (hll : l.length < 1000) (hi : x.i < 8) (h0 : x.W.getD (fP (fPl T (sfV T R k) j)) 0 < 2)
    (J : WJ T R g z N cap gB ρ w I ⟨x.i + 1, putK T x.W (fPl T (sfV T R k) j) k, some (l ++ [k])⟩) : WG2 T R g k z N cap gB ρ w I I2 x j := by
  obtain ⟨i, W, q⟩ := x
  dsimp only at hl hbd hq hi h0
  subst hq
  have hX := hXWd
  have hp : fPl T (sfV T R k) j < T := fPl_lt t1
  have pa := fpl_at hs hj t8
  have en := fent_at (R := R) hp
  have cn := fctl_at (R := R) hp
  have el := fP_lt' hl hp
  have cq2 := gP_lt' hl hp
  have h1 : (j : Int) < (T : Int) := by omega
  have hb0 := (hbd (fP (fPl T (sfV T R k) j))).1
  have hk7 : k ≤ 2147483647 := by omega
  have hk5 : k < 32768 := by omega
  have hk0 : 0 ≤ k := by omega
  have ebk := bk_at k hk0
  have eek : enK k (bK k) = eK k := rfl
  have ewi : IntKind.i64.wrap ((i : Int) + 1) = ((i + 1 : Nat) : Int) := by rw [wi64 (by omega) (by omega)]; omega
  have tsz : (XWd.TE 3).size = 1 := rfl
  dsimp only [WG2, wdT2, wdH, slV, slE]
  unfold WJ at J
  dsimp only [wdT, wdH, putK, slV, slE] at J
  refine sx hX [] 4000 rfl (by (simp [-List.getD_eq_getElem?_getD, -List.length_eq_zero_iff, conjP])) ?_
  refine sx hX [.T] 4000 rfl (by (simp [-List.getD_eq_getElem?_getD, -List.length_eq_zero_iff, conjP, h1, pa, en, el, hr, Int.toNat_natCast] <;> (first | omega | ((repeat' (refine And.intro ?_ ?_)) <;> (first | omega | exact decide_eq_false (by omega) | exact decide_eq_true (by omega)))))) ?_
  refine sx hX [.T] 4000 rfl (by (simp [-List.getD_eq_getElem?_getD, -List.length_eq_zero_iff, conjP, pa, en, cn, el, cq2, h0, k1, hk7, hk5, hk0, hr, ebk, eek, Int.toNat_natCast] <;> (first | omega | ((repeat' (refine And.intro ?_ ?_)) <;> (first | omega | exact decide_eq_false (by omega) | exact decide_eq_true (by omega)))))) ?_
  (refine J _ _ _ (sub_of [0, 1, 2, 3, 6] rfl rfl rfl rfl ?tt ?hh ?ot ?ok); (case tt => (try simp only [ewi]); exact clhW); (case hh => (try simp only [pa, en, cn, ebk, eek, Int.toNat_natCast, Nat.add_zero]); exact clhW); (case ot => exact clkW); (case ok => exact clkW))
set_option maxHeartbeats 4000000 in
theorem wskipn (hr : rightB (T : Int) 4 1 2 4 1 6 0 R = true) (t1 : 1 ≤ T) (t8 : T ≤ 8) (hl : x.W.length = 11 + 10 * T) (hbd : ∀ j, 0 ≤ x.W.getD j 0 ∧ x.W.getD j 0 < 18446744073709551616) {k : Int} (hs : sfV T R k < T) {j : Nat} (hj : j < T) (hq : x.q = none) (hi : x.i < 8) (h0 : ¬ x.W.getD (fP (fPl T (sfV T R k) j)) 0 < 2)
    (J : WJ2 T R g k z N cap gB ρ w I I2 x (j + 1)) : WG2 T R g k z N cap gB ρ w I I2 x j := by
  obtain ⟨i, W, q⟩ := x
  dsimp only at hl hbd hq hi h0
  subst hq
  have hX := hXWd
  have hp : fPl T (sfV T R k) j < T := fPl_lt t1
  have pa := fpl_at hs hj t8
  have en := fent_at (R := R) hp
  have el := fP_lt' hl hp
  have h1 : (j : Int) < (T : Int) := by omega
  have ewj : IntKind.i64.wrap ((j : Int) + 1) = ((j + 1 : Nat) : Int) := by rw [wi64 (by omega) (by omega)]; omega
  dsimp only [WG2, wdT2, wdH, slV, slE]
  unfold WJ2 at J
  dsimp only [wdT2, wdH, slV, slE] at J
  refine sx hX [] 4000 rfl (by (simp [-List.getD_eq_getElem?_getD, -List.length_eq_zero_iff, conjP])) ?_
  refine sx hX [.T] 4000 rfl (by (simp [-List.getD_eq_getElem?_getD, -List.length_eq_zero_iff, conjP, h1, pa, en, el, hr, Int.toNat_natCast] <;> (first | omega | ((repeat' (refine And.intro ?_ ?_)) <;> (first | omega | exact decide_eq_false (by omega) | exact decide_eq_true (by omega)))))) ?_
  refine sx hX [.F] 4000 rfl (by (simp [-List.getD_eq_getElem?_getD, -List.length_eq_zero_iff, conjP, addOP, pa, en, h0, Int.toNat_natCast])) ?_
  (refine J _ _ _ (sub_of [0, 1, 2, 3, 4] rfl rfl rfl rfl ?tt ?hh ?ot ?ok); (case tt => (try simp only [ewj]); exact clhW); (case hh => exact clhW); (case ot => exact clkW); (case ok => exact clkW))
set_option maxHeartbeats 4000000 in
theorem wovern (_hr : rightB (T : Int) 4 1 2 4 1 6 0 R = true) (_t1 : 1 ≤ T) (_t8 : T ≤ 8) (hl : x.W.length = 11 + 10 * T) (hbd : ∀ j, 0 ≤ x.W.getD j 0 ∧ x.W.getD j 0 < 18446744073709551616) {k : Int} (hq : x.q = none) (hi : x.i < 8) (J : WJ T R g z N cap gB ρ w I ⟨x.i + 1, x.W, x.q⟩) : WG2 T R g k z N cap gB ρ w I I2 x T := by
  obtain ⟨i, W, q⟩ := x
  dsimp only at hl hbd hq hi
  subst hq
  have hX := hXWd
  have h1 : ¬ (T : Int) < (T : Int) := by omega
  have ewi : IntKind.i64.wrap ((i : Int) + 1) = ((i + 1 : Nat) : Int) := by rw [wi64 (by omega) (by omega)]; omega
  dsimp only [WG2, wdT2, wdH, slV, slE]
  unfold WJ at J
  dsimp only [wdT, wdH, slV, slE] at J
  refine sx hX [] 4000 rfl (by (simp [-List.getD_eq_getElem?_getD, -List.length_eq_zero_iff, conjP])) ?_
  refine sx hX [.F] 4000 rfl (by (simp [-List.getD_eq_getElem?_getD, -List.length_eq_zero_iff, conjP, addOP, h1])) ?_
  (refine J _ _ _ (sub_of [0, 1, 2, 3, 4] rfl rfl rfl rfl ?tt ?hh ?ot ?ok); (case tt => (try simp only [ewi]); exact clhW); (case hh => exact clhW); (case ot => exact clkW); (case ok => exact clkW))
set_option maxHeartbeats 4000000 in
theorem wskips (hr : rightB (T : Int) 4 1 2 4 1 6 0 R = true) (t1 : 1 ≤ T) (t8 : T ≤ 8) (hl : x.W.length = 11 + 10 * T) (hbd : ∀ j, 0 ≤ x.W.getD j 0 ∧ x.W.getD j 0 < 18446744073709551616) {k : Int} (hs : sfV T R k < T) {j : Nat} (hj : j < T) {l : List Int} (_hll : l.length < 1000) (hq : x.q = some l) (hi : x.i < 8) (h0 : ¬ x.W.getD (fP (fPl T (sfV T R k) j)) 0 < 2)
    (J : WJ2 T R g k z N cap gB ρ w I I2 x (j + 1)) : WG2 T R g k z N cap gB ρ w I I2 x j := by
  obtain ⟨i, W, q⟩ := x
  dsimp only at hl hbd hq hi h0
  subst hq
  have hX := hXWd
  have hp : fPl T (sfV T R k) j < T := fPl_lt t1
  have pa := fpl_at hs hj t8
  have en := fent_at (R := R) hp
  have el := fP_lt' hl hp
  have h1 : (j : Int) < (T : Int) := by omega
  have ewj : IntKind.i64.wrap ((j : Int) + 1) = ((j + 1 : Nat) : Int) := by rw [wi64 (by omega) (by omega)]; omega
  dsimp only [WG2, wdT2, wdH, slV, slE]
  unfold WJ2 at J
  dsimp only [wdT2, wdH, slV, slE] at J
  refine sx hX [] 4000 rfl (by (simp [-List.getD_eq_getElem?_getD, -List.length_eq_zero_iff, conjP])) ?_
  refine sx hX [.T] 4000 rfl (by (simp [-List.getD_eq_getElem?_getD, -List.length_eq_zero_iff, conjP, h1, pa, en, el, hr, Int.toNat_natCast] <;> (first | omega | ((repeat' (refine And.intro ?_ ?_)) <;> (first | omega | exact decide_eq_false (by omega) | exact decide_eq_true (by omega)))))) ?_
  refine sx hX [.F] 4000 rfl (by (simp [-List.getD_eq_getElem?_getD, -List.length_eq_zero_iff, conjP, addOP, pa, en, h0, Int.toNat_natCast])) ?_
  (refine J _ _ _ (sub_of [0, 1, 2, 3, 4] rfl rfl rfl rfl ?tt ?hh ?ot ?ok); (case tt => (try simp only [ewj]); exact clhW); (case hh => exact clhW); (case ot => exact clkW); (case ok => exact clkW))
set_option maxHeartbeats 4000000 in
theorem wovers (_hr : rightB (T : Int) 4 1 2 4 1 6 0 R = true) (_t1 : 1 ≤ T) (_t8 : T ≤ 8) (hl : x.W.length = 11 + 10 * T) (hbd : ∀ j, 0 ≤ x.W.getD j 0 ∧ x.W.getD j 0 < 18446744073709551616) {k : Int} {l : List Int} (_hll : l.length < 1000) (hq : x.q = some l) (hi : x.i < 8) (J : WJ T R g z N cap gB ρ w I ⟨x.i + 1, x.W, x.q⟩) : WG2 T R g k z N cap gB ρ w I I2 x T := by
  obtain ⟨i, W, q⟩ := x
  dsimp only at hl hbd hq hi
  subst hq
  have hX := hXWd
  have h1 : ¬ (T : Int) < (T : Int) := by omega
  have ewi : IntKind.i64.wrap ((i : Int) + 1) = ((i + 1 : Nat) : Int) := by rw [wi64 (by omega) (by omega)]; omega
  dsimp only [WG2, wdT2, wdH, slV, slE]
  unfold WJ at J
  dsimp only [wdT, wdH, slV, slE] at J
  refine sx hX [] 4000 rfl (by (simp [-List.getD_eq_getElem?_getD, -List.length_eq_zero_iff, conjP])) ?_
  refine sx hX [.F] 4000 rfl (by (simp [-List.getD_eq_getElem?_getD, -List.length_eq_zero_iff, conjP, addOP, h1])) ?_
  (refine J _ _ _ (sub_of [0, 1, 2, 3, 4] rfl rfl rfl rfl ?tt ?hh ?ot ?ok); (case tt => (try simp only [ewi]); exact clhW); (case hh => exact clhW); (case ot => exact clkW); (case ok => exact clkW))
set_option maxHeartbeats 4000000 in
theorem wnewn (hr : rightB (T : Int) 4 1 2 4 1 6 0 R = true) (t1 : 1 ≤ T) (t8 : T ≤ 8) (hl : x.W.length = 11 + 10 * T) (hbd : ∀ j, 0 ≤ x.W.getD j 0 ∧ x.W.getD j 0 < 18446744073709551616) {k : Int} (hk : cRem 1 20 (z.getD x.i 0) = k) (k1 : 1 ≤ k) (k2 : k ≤ 20) (hq : x.q = none) (hi : x.i < 8) (hz : x.i < z.length) (hN : z.length = N) (hs1 : startV (T : Int) 4 1 2 4 1 6 0 R k = (sfV T R k : Int)) (hs : sfV T R k < T) 
    (J : ∀ x', x' = (insK T (sfV T R) (x.W, lst x.q) k) → WJ T R g z N cap gB ρ w I ⟨x.i + 1, x'.1, opL x'.2⟩) : WG T R g z N cap gB ρ w I x := by
  have J0 := J _ rfl
  have hjn : ∀ j, jF T (sfV T R k) x.W = j → insK T (sfV T R) (x.W, lst x.q) k = match j with | none => (x.W, lst x.q) | some j => (putK T x.W (fPl T (sfV T R k) j) k, lst x.q ++ [k]) := fun j e => by
    unfold insK
    rw [if_neg (by rw [hq]; simp [lst, hasL]), e]
    cases j <;> rfl
  have inner : ∀ I2 j, j ≤ T → (∀ i, i < j → ¬ x.W.getD (fP (fPl T (sfV T R k) i)) 0 < 2) → (j < T → ¬ x.W.getD (fP (fPl T (sfV T R k) j)) 0 < 2 → WJ2 T R g k z N cap gB ρ w I I2 x (j + 1)) → WG2 T R g k z N cap gB ρ w I I2 x j := fun I2 j hj hb back => by
    by_cases hjT : j < T
    · by_cases h0 : x.W.getD (fP (fPl T (sfV T R k) j)) 0 < 2
      · rw [hjn _ (jF_some hjT h0 hb)] at J0
        refine wputn hr t1 t8 hl hbd k1 k2 hs hjT hq hi h0 ?_
        have e : opL (lst x.q ++ [k]) = some [k] := by rw [hq]; rfl
        dsimp only at J0
        rw [e] at J0
        exact J0
      · exact wskipn hr t1 t8 hl hbd hs hjT hq hi h0 (back hjT h0)
    · have hjT' : j = T := by omega
      subst hjT'
      rw [hjn _ (jF_none hb)] at J0
      refine wovern hr t1 t8 hl hbd hq hi ?_
      have e : opL (lst x.q) = x.q := by rw [hq]; rfl
      dsimp only at J0
      rw [e] at J0
      exact J0
  obtain ⟨i, W, q⟩ := x
  dsimp only at hl hbd hk hq hi hz
  subst hq
  have hX := hXWd
  have h1 : (i : Int) < (N : Int) := by omega
  have h2 : (i : Int) < 8 := by omega
  have hk7 : k ≤ 2147483647 := by omega
  have ek : IntKind.i64.wrap (1 + (IntKind.i64.wrap ((z.getD i 0).tmod 20 + 20)).tmod 20) = k := hk
  have tsz : (XWd.TE 3).size = 1 := rfl
  dsimp only [WG, wdT, wdH, slV, slE]
  refine sxb hX [.l] [] 4000 rfl (by (simp [-List.getD_eq_getElem?_getD, -List.length_eq_zero_iff, conjP])) ?_
  refine sxb hX [.l] [.T] 4000 rfl (by (simp [-List.getD_eq_getElem?_getD, -List.length_eq_zero_iff, conjP, addOP, h1])) ?_
  refine sxb hX [.l] [.T] 4000 rfl (by (simp [-List.getD_eq_getElem?_getD, -List.length_eq_zero_iff, conjP, h1, h2, hz, Int.toNat_natCast])) ?_
  refine sxb hX [.l] [.F] 4000 rfl (by (simp [-List.getD_eq_getElem?_getD, -List.length_eq_zero_iff, conjP, ek, hr, k1, hk7, Int.toNat_natCast])) ?_
  (try simp only [Int.toNat_natCast, Nat.add_zero, ek, hs1]; refine ss_sub hX (T' := wdT2 T R k ⟨i, W, none⟩ 0) (H' := wdH T R g z N cap W (none)) [0, 1, 2, 3, 4] rfl rfl rfl rfl ?tt ?hh ?ot ?ok ?jj; (case tt => (try simp only [Int.toNat_natCast, Nat.add_zero, ek, hs1]); exact clhW); (case hh => exact clhW); (case ot => exact clkW); (case ok => exact clkW); (case jj => refine ss_loop hX (wdT2 T R k ⟨i, W, none⟩) (fun _ => wdH T R g z N cap W (none)) (fun j => j ≤ T ∧ ∀ i, i < j → ¬ W.getD (fP (fPl T (sfV T R k) i)) 0 < 2) (fun j => T - j) 0 ⟨Nat.zero_le _, fun i hi => absurd hi (Nat.not_lt_zero i)⟩ ?_; rintro j ⟨a, b⟩ I2 back; refine sxb hX [.r 10] [] 100 rfl trivial ?_; exact ss_sw hX (sw_ss hX (cs := []) (inner I2 j a b (fun hj hn => back (j + 1) ⟨hj, fun i hi => by by_cases e : i = j; exact e ▸ hn; exact b i (by omega)⟩ (by omega))))))
set_option maxHeartbeats 4000000 in
theorem whas (_hr : rightB (T : Int) 4 1 2 4 1 6 0 R = true) (_t1 : 1 ≤ T) (_t8 : T ≤ 8) (hl : x.W.length = 11 + 10 * T) (hbd : ∀ j, 0 ≤ x.W.getD j 0 ∧ x.W.getD j 0 < 18446744073709551616) {k : Int} (hk : cRem 1 20 (z.getD x.i 0) = k) (k1 : 1 ≤ k) (k2 : k ≤ 20) {l : List Int} (hll : l.length < 1000) (hq : x.q = some l) (hi : x.i < 8) (hz : x.i < z.length) (hN : z.length = N) (_hne : ¬ l = []) (hh : hasL l k = true) (J : WJ T R g z N cap gB ρ w I ⟨x.i + 1, x.W, x.q⟩) : WG T R g z N cap gB ρ w I x := by
  obtain ⟨i, W, q⟩ := x
  dsimp only at hl hbd hk hq hi hz
  subst hq
  have hX := hXWd
  have h1 : (i : Int) < (N : Int) := by omega
  have h2 : (i : Int) < 8 := by omega
  have hk7 : k ≤ 2147483647 := by omega
  have ek : IntKind.i64.wrap (1 + (IntKind.i64.wrap ((z.getD i 0).tmod 20 + 20)).tmod 20) = k := hk
  have tsz : (XWd.TE 3).size = 1 := rfl
  have ewi : IntKind.i64.wrap ((i : Int) + 1) = ((i + 1 : Nat) : Int) := by rw [wi64 (by omega) (by omega)]; omega
  dsimp only [WG, wdT, wdH, slV, slE]
  unfold WJ at J
  dsimp only [wdT, wdH, slV, slE] at J
  refine sx hX [] 4000 rfl (by (simp [-List.getD_eq_getElem?_getD, -List.length_eq_zero_iff, conjP])) ?_
  refine sx hX [.T] 4000 rfl (by (simp [-List.getD_eq_getElem?_getD, -List.length_eq_zero_iff, conjP, addOP, h1])) ?_
  refine sx hX [.T] 4000 rfl (by (simp [-List.getD_eq_getElem?_getD, -List.length_eq_zero_iff, conjP, h1, h2, hz, Int.toNat_natCast] <;> (first | omega | ((repeat' (refine And.intro ?_ ?_)) <;> (first | omega | exact decide_eq_false (by omega) | exact decide_eq_true (by omega)))))) ?_
  refine sx hX [.T] 4000 rfl (by (simp [-List.getD_eq_getElem?_getD, -List.length_eq_zero_iff, conjP, addOP, ek, hh, Int.toNat_natCast])) ?_
  (refine J _ _ _ (sub_of [0, 1, 2, 3, 4] rfl rfl rfl rfl ?tt ?hh ?ot ?ok); (case tt => (try simp only [ewi]); exact clhW); (case hh => exact clhW); (case ot => exact clkW); (case ok => exact clkW))
set_option maxHeartbeats 4000000 in
theorem wnews (hr : rightB (T : Int) 4 1 2 4 1 6 0 R = true) (t1 : 1 ≤ T) (t8 : T ≤ 8) (hl : x.W.length = 11 + 10 * T) (hbd : ∀ j, 0 ≤ x.W.getD j 0 ∧ x.W.getD j 0 < 18446744073709551616) {k : Int} (hk : cRem 1 20 (z.getD x.i 0) = k) (k1 : 1 ≤ k) (k2 : k ≤ 20) {l : List Int} (hll : l.length < 1000) (hq : x.q = some l) (hi : x.i < 8) (hz : x.i < z.length) (hN : z.length = N) (hne : ¬ l = []) (hs1 : startV (T : Int) 4 1 2 4 1 6 0 R k = (sfV T R k : Int)) (hs : sfV T R k < T) (hh : hasL l k = false) 
    (J : ∀ x', x' = (insK T (sfV T R) (x.W, lst x.q) k) → WJ T R g z N cap gB ρ w I ⟨x.i + 1, x'.1, opL x'.2⟩) : WG T R g z N cap gB ρ w I x := by
  have J0 := J _ rfl
  have hjn : ∀ j, jF T (sfV T R k) x.W = j → insK T (sfV T R) (x.W, lst x.q) k = match j with | none => (x.W, lst x.q) | some j => (putK T x.W (fPl T (sfV T R k) j) k, lst x.q ++ [k]) := fun j e => by
    unfold insK
    rw [if_neg (by rw [hq]; show ¬ hasL l k = true; rw [hh]; decide), e]
    cases j <;> rfl
  have inner : ∀ I2 j, j ≤ T → (∀ i, i < j → ¬ x.W.getD (fP (fPl T (sfV T R k) i)) 0 < 2) → (j < T → ¬ x.W.getD (fP (fPl T (sfV T R k) j)) 0 < 2 → WJ2 T R g k z N cap gB ρ w I I2 x (j + 1)) → WG2 T R g k z N cap gB ρ w I I2 x j := fun I2 j hj hb back => by
    by_cases hjT : j < T
    · by_cases h0 : x.W.getD (fP (fPl T (sfV T R k) j)) 0 < 2
      · rw [hjn _ (jF_some hjT h0 hb)] at J0
        refine wputs hr t1 t8 hl hbd k1 k2 hs hjT hq (by assumption) hi h0 ?_
        have e : opL (lst x.q ++ [k]) = some (l ++ [k]) := by rw [hq]; exact opL_app l k
        dsimp only at J0
        rw [e] at J0
        exact J0
      · exact wskips hr t1 t8 hl hbd hs hjT (by assumption) hq hi h0 (back hjT h0)
    · have hjT' : j = T := by omega
      subst hjT'
      rw [hjn _ (jF_none hb)] at J0
      refine wovers hr t1 t8 hl hbd (by assumption) hq hi ?_
      have e : opL (lst x.q) = x.q := by rw [hq]; show opL l = some l; unfold opL; rw [if_neg hne]
      dsimp only at J0
      rw [e] at J0
      exact J0
  obtain ⟨i, W, q⟩ := x
  dsimp only at hl hbd hk hq hi hz
  subst hq
  have hX := hXWd
  have h1 : (i : Int) < (N : Int) := by omega
  have h2 : (i : Int) < 8 := by omega
  have hk7 : k ≤ 2147483647 := by omega
  have ek : IntKind.i64.wrap (1 + (IntKind.i64.wrap ((z.getD i 0).tmod 20 + 20)).tmod 20) = k := hk
  have tsz : (XWd.TE 3).size = 1 := rfl
  dsimp only [WG, wdT, wdH, slV, slE]
  refine sxb hX [.l] [] 4000 rfl (by (simp [-List.getD_eq_getElem?_getD, -List.length_eq_zero_iff, conjP])) ?_
  refine sxb hX [.l] [.T] 4000 rfl (by (simp [-List.getD_eq_getElem?_getD, -List.length_eq_zero_iff, conjP, addOP, h1])) ?_
  refine sxb hX [.l] [.T] 4000 rfl (by (simp [-List.getD_eq_getElem?_getD, -List.length_eq_zero_iff, conjP, h1, h2, hz, Int.toNat_natCast] <;> (first | omega | ((repeat' (refine And.intro ?_ ?_)) <;> (first | omega | exact decide_eq_false (by omega) | exact decide_eq_true (by omega)))))) ?_
  refine sxb hX [.l] [.F] 4000 rfl (by (simp [-List.getD_eq_getElem?_getD, -List.length_eq_zero_iff, conjP, ek, hh, hr, k1, hk7, Int.toNat_natCast])) ?_
  (try simp only [Int.toNat_natCast, Nat.add_zero, ek, hs1]; refine ss_sub hX (T' := wdT2 T R k ⟨i, W, some l⟩ 0) (H' := wdH T R g z N cap W (some l)) [0, 1, 2, 3, 4] rfl rfl rfl rfl ?tt ?hh ?ot ?ok ?jj; (case tt => (try simp only [Int.toNat_natCast, Nat.add_zero, ek, hs1]); exact clhW); (case hh => exact clhW); (case ot => exact clkW); (case ok => exact clkW); (case jj => refine ss_loop hX (wdT2 T R k ⟨i, W, some l⟩) (fun _ => wdH T R g z N cap W (some l)) (fun j => j ≤ T ∧ ∀ i, i < j → ¬ W.getD (fP (fPl T (sfV T R k) i)) 0 < 2) (fun j => T - j) 0 ⟨Nat.zero_le _, fun i hi => absurd hi (Nat.not_lt_zero i)⟩ ?_; rintro j ⟨a, b⟩ I2 back; refine sxb hX [.r 10] [] 100 rfl trivial ?_; exact ss_sw hX (sw_ss hX (cs := []) (inner I2 j a b (fun hj hn => back (j + 1) ⟨hj, fun i hi => by by_cases e : i = j; exact e ▸ hn; exact b i (by omega)⟩ (by omega))))))
end
end Go.Proofs.YtkkddjchkkaagaaGreatDoor
