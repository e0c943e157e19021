/- FindFinds: what was told. -/
import Derived.Test.YtkkddjchkkaagaaGreatDoorFindsLoops

namespace Go.Proofs.YtkkddjchkkaagaaGreatDoor
open Go Go.Hx
set_option maxRecDepth 8000
def k24T (W1 : List Int) (q : Option (List Int)) (k n0 m0 : Int) : List (Nat × SV) := [(7, .tt), (8, .ptr 2 0), (9, .ptr 3 0), (11, .slice 5 0 W1.length W1.length), (12, slV q 6), (14, .int .i64 k), (15, .ptr 7 0), (16, .ptr 8 0), (17, .int .i64 n0), (19, .int .i64 m0)]
def k6T (W1 : List Int) (q : Option (List Int)) (k : Int) (er : SV) (xo : Option (List Int)) (i : Nat) : List (Nat × SV) := [(7, .tt), (8, .ptr 2 0), (11, .slice 5 0 W1.length W1.length), (12, slV (q) 6), (14, .int .i64 k), (21, .ptr 7 0), (22, er), (23, slV (xo) 8), (25, .int .i64 ((i : Nat) : Int))]
abbrev tpE (pl ep : Int) (lg : SV) : HE := .obj (.cells [.int .i64 pl, .int .i64 ep, lg] 25)
def k6H (bb : Bool) (z : List Int) (T : Nat) (R : Int) (y : AQ) (W1 : List Int) (q : Option (List Int)) (pl ep : Int) (lg : SV) (xo : Option (List Int)) : List HE := kdH bb z T R y W1 q [tpE pl ep lg, slE xo .i64 3]
section
variable {bb : Bool} {z : List Int} {T : Nat} {R k key : Int} {W1 all : List Int} {q : Option (List Int)} {n0 : Int} {ρ : Nat → Nat × Nat} {w : World} {I : Act → World → Prop}

set_option maxHeartbeats 4000000 in
theorem kx0n {y : AQ} {X a : List Int} {i : Nat} {pl ep : Int} (_hX8 : X.length ≤ 8) (ha8 : a.length ≤ 8) (hi : i < X.length) (i0 : i = 0) (hh : hasL a (X.getD i 0) = true)
    (J : KJ (kp0 T R) bb z ρ w I 29 (k6T W1 (some a) k (erO 12) (some X) (i + 1)) (k6H bb z T R y W1 (some a) pl ep (.ff) (some X))) :
    KG (kp0 T R) bb z ρ w I 29 (k6T W1 (some a) k (erO 12) (some X) i) (k6H bb z T R y W1 (some a) pl ep (.ff) (some X)) := by
  obtain ⟨W, st, kd, wd, vl, ch⟩ := y
  have hX := hXKl (kp0 T R)
  have h1 : (i : Int) < (X.length : Int) := by omega
  have tsz : ((XKl (kp0 T R)).TE 3).size = 1 := rfl
  have ez : ∀ j, cellOff j 1 0 = j := fun j => by simp [cellOff]
  have ha9 : a.length < 1000000 := by omega
  have h3 : ¬ (0 : Int) < (i : Int) := by omega
  have ewm : 0 < i → (IntKind.i64.wrap ((i : Int) - 1)).toNat = i - 1 := fun _ => by rw [wi64 (by omega) (by omega)]; omega
  have ewn : 0 < i → IntKind.i64.wrap ((i : Int) - 1) = ((i - 1 : Nat) : Int) := fun _ => by rw [wi64 (by omega) (by omega)]; omega
  skip
  have ewi : IntKind.i64.wrap ((i : Int) + 1) = ((i + 1 : Nat) : Int) := by rw [wi64 (by omega) (by omega)]; omega
  dsimp only [KG, k6T, k6H, kdH, slV, slE]
  unfold KJ at J
  dsimp only [k6T, k6H, kdH, slV, slE] at J
  refine sx hX [] 4000 rfl (by (simp [-List.getD_eq_getElem?_getD, -List.length_eq_zero_iff, conjP])) ?_
  refine sx hX [.T] 4000 rfl (by (simp [-List.getD_eq_getElem?_getD, -List.length_eq_zero_iff, conjP, addOP, h1])) ?_
  refine sx hX [.K, .K, .F, .K, .F] 4000 rfl (by (simp [-List.getD_eq_getElem?_getD, -List.length_eq_zero_iff, conjP, h1, hi, ez, ha9, hh, Int.toNat_natCast] <;> (first | omega | ((repeat' (refine And.intro ?_ ?_)) <;> (first | omega | exact decide_eq_false (by omega) | exact decide_eq_true (by omega)))))) ?_
  (refine J _ _ _ (sub_of [0, 1, 2, 3, 4, 5, 6, 7, 8] rfl rfl rfl (by cases bb <;> rfl) ?tt ?hh ?ot ?ok); (case tt => (try simp only [ewi]); exact clhK); (case hh => exact clhK); (case ot => exact clkK); (case ok => exact clkK))
set_option maxHeartbeats 4000000 in
theorem kx0y {y : AQ} {X a : List Int} {i : Nat} {pl ep : Int} {lg : Bool} (_hX8 : X.length ≤ 8) (ha8 : a.length ≤ 8) (hi : i < X.length) (i0 : i = 0) (hh : hasL a (X.getD i 0) = true)
    (J : KJ (kp0 T R) bb z ρ w I 29 (k6T W1 (some a) k (.niliface) (some X) (i + 1)) (k6H bb z T R y W1 (some a) pl ep (.bool lg) (some X))) :
    KG (kp0 T R) bb z ρ w I 29 (k6T W1 (some a) k (.niliface) (some X) i) (k6H bb z T R y W1 (some a) pl ep (.bool lg) (some X)) := by
  obtain ⟨W, st, kd, wd, vl, ch⟩ := y
  have hX := hXKl (kp0 T R)
  have h1 : (i : Int) < (X.length : Int) := by omega
  have tsz : ((XKl (kp0 T R)).TE 3).size = 1 := rfl
  have ez : ∀ j, cellOff j 1 0 = j := fun j => by simp [cellOff]
  have ha9 : a.length < 1000000 := by omega
  have h3 : ¬ (0 : Int) < (i : Int) := by omega
  have ewm : 0 < i → (IntKind.i64.wrap ((i : Int) - 1)).toNat = i - 1 := fun _ => by rw [wi64 (by omega) (by omega)]; omega
  have ewn : 0 < i → IntKind.i64.wrap ((i : Int) - 1) = ((i - 1 : Nat) : Int) := fun _ => by rw [wi64 (by omega) (by omega)]; omega
  skip
  have ewi : IntKind.i64.wrap ((i : Int) + 1) = ((i + 1 : Nat) : Int) := by rw [wi64 (by omega) (by omega)]; omega
  dsimp only [KG, k6T, k6H, kdH, slV, slE]
  unfold KJ at J
  dsimp only [k6T, k6H, kdH, slV, slE] at J
  refine sx hX [] 4000 rfl (by (simp [-List.getD_eq_getElem?_getD, -List.length_eq_zero_iff, conjP])) ?_
  refine sx hX [.T] 4000 rfl (by (simp [-List.getD_eq_getElem?_getD, -List.length_eq_zero_iff, conjP, addOP, h1])) ?_
  refine sx hX [.K, .K, .F, .K, .F] 4000 rfl (by (simp [-List.getD_eq_getElem?_getD, -List.length_eq_zero_iff, conjP, h1, hi, ez, ha9, hh, Int.toNat_natCast] <;> (first | omega | ((repeat' (refine And.intro ?_ ?_)) <;> (first | omega | exact decide_eq_false (by omega) | exact decide_eq_true (by omega)))))) ?_
  (refine J _ _ _ (sub_of [0, 1, 2, 3, 4, 5, 6, 7, 8] rfl rfl rfl (by cases bb <;> rfl) ?tt ?hh ?ot ?ok); (case tt => (try simp only [ewi]); exact clhK); (case hh => exact clhK); (case ot => exact clkK); (case ok => exact clkK))
set_option maxHeartbeats 4000000 in
theorem kx1n {y : AQ} {X a : List Int} {i : Nat} {pl ep : Int} (hX8 : X.length ≤ 8) (ha8 : a.length ≤ 8) (hi : i < X.length) (i0 : 0 < i) (hx : X.getD (i - 1) 0 < X.getD i 0) (hh : hasL a (X.getD i 0) = true)
    (J : KJ (kp0 T R) bb z ρ w I 29 (k6T W1 (some a) k (erO 12) (some X) (i + 1)) (k6H bb z T R y W1 (some a) pl ep (.ff) (some X))) :
    KG (kp0 T R) bb z ρ w I 29 (k6T W1 (some a) k (erO 12) (some X) i) (k6H bb z T R y W1 (some a) pl ep (.ff) (some X)) := by
  obtain ⟨W, st, kd, wd, vl, ch⟩ := y
  have hX := hXKl (kp0 T R)
  have h1 : (i : Int) < (X.length : Int) := by omega
  have tsz : ((XKl (kp0 T R)).TE 3).size = 1 := rfl
  have ez : ∀ j, cellOff j 1 0 = j := fun j => by simp [cellOff]
  have ha9 : a.length < 1000000 := by omega
  have h3 : (0 : Int) < (i : Int) := by omega
  have ewm : 0 < i → (IntKind.i64.wrap ((i : Int) - 1)).toNat = i - 1 := fun _ => by rw [wi64 (by omega) (by omega)]; omega
  have ewn : 0 < i → IntKind.i64.wrap ((i : Int) - 1) = ((i - 1 : Nat) : Int) := fun _ => by rw [wi64 (by omega) (by omega)]; omega
  have ewn := ewn i0
  have ewm := ewm i0
  have hx2 : ¬ X.getD i 0 ≤ X.getD (i - 1) 0 := by omega
  have i2 : i - 1 < X.length := by omega
  have i3 : ((i - 1 : Nat) : Int) < (X.length : Int) := by omega
  have ewi : IntKind.i64.wrap ((i : Int) + 1) = ((i + 1 : Nat) : Int) := by rw [wi64 (by omega) (by omega)]; omega
  dsimp only [KG, k6T, k6H, kdH, slV, slE]
  unfold KJ at J
  dsimp only [k6T, k6H, kdH, slV, slE] at J
  refine sx hX [] 4000 rfl (by (simp [-List.getD_eq_getElem?_getD, -List.length_eq_zero_iff, conjP])) ?_
  refine sx hX [.T] 4000 rfl (by (simp [-List.getD_eq_getElem?_getD, -List.length_eq_zero_iff, conjP, addOP, h1])) ?_
  refine sx hX [.K, .K, .F, .K, .T] 4000 rfl (by (simp [-List.getD_eq_getElem?_getD, -List.length_eq_zero_iff, conjP, h1, hi, ez, ha9, hh, ewn, i2, i3, Int.toNat_natCast] <;> (first | omega | ((repeat' (refine And.intro ?_ ?_)) <;> (first | omega | exact decide_eq_false (by omega) | exact decide_eq_true (by omega)))))) ?_
  refine sx hX [.F] 4000 rfl (by (simp [-List.getD_eq_getElem?_getD, -List.length_eq_zero_iff, conjP, addOP, ez, ewn, hx2, Int.toNat_natCast])) ?_
  (refine J _ _ _ (sub_of [0, 1, 2, 3, 4, 5, 6, 7, 8] rfl rfl rfl (by cases bb <;> rfl) ?tt ?hh ?ot ?ok); (case tt => (try simp only [ewi]); exact clhK); (case hh => exact clhK); (case ot => exact clkK); (case ok => exact clkK))
set_option maxHeartbeats 4000000 in
theorem kx1y {y : AQ} {X a : List Int} {i : Nat} {pl ep : Int} {lg : Bool} (hX8 : X.length ≤ 8) (ha8 : a.length ≤ 8) (hi : i < X.length) (i0 : 0 < i) (hx : X.getD (i - 1) 0 < X.getD i 0) (hh : hasL a (X.getD i 0) = true)
    (J : KJ (kp0 T R) bb z ρ w I 29 (k6T W1 (some a) k (.niliface) (some X) (i + 1)) (k6H bb z T R y W1 (some a) pl ep (.bool lg) (some X))) :
    KG (kp0 T R) bb z ρ w I 29 (k6T W1 (some a) k (.niliface) (some X) i) (k6H bb z T R y W1 (some a) pl ep (.bool lg) (some X)) := by
  obtain ⟨W, st, kd, wd, vl, ch⟩ := y
  have hX := hXKl (kp0 T R)
  have h1 : (i : Int) < (X.length : Int) := by omega
  have tsz : ((XKl (kp0 T R)).TE 3).size = 1 := rfl
  have ez : ∀ j, cellOff j 1 0 = j := fun j => by simp [cellOff]
  have ha9 : a.length < 1000000 := by omega
  have h3 : (0 : Int) < (i : Int) := by omega
  have ewm : 0 < i → (IntKind.i64.wrap ((i : Int) - 1)).toNat = i - 1 := fun _ => by rw [wi64 (by omega) (by omega)]; omega
  have ewn : 0 < i → IntKind.i64.wrap ((i : Int) - 1) = ((i - 1 : Nat) : Int) := fun _ => by rw [wi64 (by omega) (by omega)]; omega
  have ewn := ewn i0
  have ewm := ewm i0
  have hx2 : ¬ X.getD i 0 ≤ X.getD (i - 1) 0 := by omega
  have i2 : i - 1 < X.length := by omega
  have i3 : ((i - 1 : Nat) : Int) < (X.length : Int) := by omega
  have ewi : IntKind.i64.wrap ((i : Int) + 1) = ((i + 1 : Nat) : Int) := by rw [wi64 (by omega) (by omega)]; omega
  dsimp only [KG, k6T, k6H, kdH, slV, slE]
  unfold KJ at J
  dsimp only [k6T, k6H, kdH, slV, slE] at J
  refine sx hX [] 4000 rfl (by (simp [-List.getD_eq_getElem?_getD, -List.length_eq_zero_iff, conjP])) ?_
  refine sx hX [.T] 4000 rfl (by (simp [-List.getD_eq_getElem?_getD, -List.length_eq_zero_iff, conjP, addOP, h1])) ?_
  refine sx hX [.K, .K, .F, .K, .T] 4000 rfl (by (simp [-List.getD_eq_getElem?_getD, -List.length_eq_zero_iff, conjP, h1, hi, ez, ha9, hh, ewn, i2, i3, Int.toNat_natCast] <;> (first | omega | ((repeat' (refine And.intro ?_ ?_)) <;> (first | omega | exact decide_eq_false (by omega) | exact decide_eq_true (by omega)))))) ?_
  refine sx hX [.F] 4000 rfl (by (simp [-List.getD_eq_getElem?_getD, -List.length_eq_zero_iff, conjP, addOP, ez, ewn, hx2, Int.toNat_natCast])) ?_
  (refine J _ _ _ (sub_of [0, 1, 2, 3, 4, 5, 6, 7, 8] rfl rfl rfl (by cases bb <;> rfl) ?tt ?hh ?ot ?ok); (case tt => (try simp only [ewi]); exact clhK); (case hh => exact clhK); (case ot => exact clkK); (case ok => exact clkK))
set_option maxHeartbeats 8000000 in
theorem kend0 {W : List Int} {st kd wd vl : Int} {ch : Bool} {m0 seq : Int} {j : Nat} {fd tm seq' : Int} {j' : Nat} {fd' tm' : Int} (hT : T ≤ 8) (hm1 : n0 ≤ m0) (hm2 : m0 - n0 ≤ (T : Int) + 3) :
    SS (hXKl ⟨false, T, R, 0, ⟨k, 0, seq, j, fd, 0, 0, false, 12, tm⟩, ⟨f00, 0, 0⟩, false, ⟨0, seq', j', fd', none, 0, tm'⟩, ⟨l00, 0, 0⟩, 1, 0, 9⟩) (At ρ w) (Is .tt [keE bb z, pinE RTV]) ⟨[], [], Tryz.f5, Tryz.f5.ntmps, [keE bb z, pinE RTV], contF Tryz.f5 24 [], k24T W1 (none) k n0 m0, kfH bb z T R ⟨W, st, kd, wd, vl, ch⟩ W1 (none) ⟨k, 0, seq, j, fd, 0, 0, false, 12, tm⟩ ⟨0, seq', j', fd', none, 0, tm'⟩⟩ := by
  have hX := hXKl ⟨false, T, R, 0, ⟨k, 0, seq, j, fd, 0, 0, false, 12, tm⟩, ⟨f00, 0, 0⟩, false, ⟨0, seq', j', fd', none, 0, tm'⟩, ⟨l00, 0, 0⟩, 1, 0, 9⟩
  have e3 : IntKind.i64.wrap ((T : Int) + 3) = (T : Int) + 3 := wi64 (by omega) (by omega)
  have emn : IntKind.i64.wrap (m0 - n0) = m0 - n0 := wi64 (by omega) (by omega)
  have hmn : ¬ (T : Int) + 3 < m0 - n0 := by omega
  have tsz : ((XKl ⟨false, T, R, 0, ⟨k, 0, seq, j, fd, 0, 0, false, 12, tm⟩, ⟨f00, 0, 0⟩, false, ⟨0, seq', j', fd', none, 0, tm'⟩, ⟨l00, 0, 0⟩, 1, 0, 9⟩).TE 3).size = 1 := rfl
  have fin0 : ∀ I2 : Act → World → Prop, SS hX (At ρ w) (Is .tt [keE bb z, pinE RTV]) ⟨[], [], Tryz.f5, Tryz.f5.ntmps, [keE bb z, pinE RTV], contF Tryz.f5 29 [I2], k6T W1 (none) k (erO 12) (none) 0, k6H bb z T R ⟨W, st, kd, wd, vl, ch⟩ W1 (none) 0 0 (.ff) (none)⟩ := fun I2 => by
    dsimp only [k6T, k6H, kdH, slV, slE]
    refine sx hX [] 4000 rfl (by (simp [-List.getD_eq_getElem?_getD, -List.length_eq_zero_iff, conjP])) ?_
    refine sx hX [.F] 4000 rfl (by (simp [-List.getD_eq_getElem?_getD, -List.length_eq_zero_iff, conjP, addOP])) ?_
    refine sx hX [.T] 4000 rfl (by (simp [-List.getD_eq_getElem?_getD, -List.length_eq_zero_iff, conjP])) ?_
    refine sx hX [.T] 4000 rfl (by (simp [-List.getD_eq_getElem?_getD, -List.length_eq_zero_iff, conjP, addOP])) ?_
    refine sx hX [.T] 4000 rfl (by (simp [-List.getD_eq_getElem?_getD, -List.length_eq_zero_iff, conjP, addOP])) ?_
    (refine ss_end hX [0, 1] rfl rfl trivial rfl rfl rfl (by cases bb <;> rfl) ?tt ?hh ?ot ?ok; (case tt => first | exact clhK); (case hh => exact clhK); (case ot => exact clkK); (case ok => exact clkK))
  dsimp only [k24T, kfH, kdH, slV, slE]
  refine sxb hX [.l] [] 4000 rfl (by (simp [-List.getD_eq_getElem?_getD, -List.length_eq_zero_iff, conjP])) ?_
  refine sxb hX [.l] [.F] 4000 rfl (by (simp [-List.getD_eq_getElem?_getD, -List.length_eq_zero_iff, conjP])) ?_
  refine sxb hX [.l] [.F] 4000 rfl (by (simp [-List.getD_eq_getElem?_getD, -List.length_eq_zero_iff, conjP, addOP])) ?_
  refine sxb hX [.l] [.F] 4000 rfl (by (simp [-List.getD_eq_getElem?_getD, -List.length_eq_zero_iff, conjP, addOP, e3, emn, hmn])) ?_
  refine sxb hX [.l] [.F] 4000 rfl (by (simp [-List.getD_eq_getElem?_getD, -List.length_eq_zero_iff, conjP, addOP])) ?_
  refine sxb hX [.l] [.F] 4000 rfl (by (simp [-List.getD_eq_getElem?_getD, -List.length_eq_zero_iff, conjP, addOP])) ?_
  (refine ss_sub hX (T' := k6T W1 (none) k (erO 12) (none) 0) (H' := k6H bb z T R ⟨W, st, kd, wd, vl, ch⟩ W1 (none) 0 0 (.ff) (none)) [0, 1, 2, 3, 4, 5, 60, 10, 61] rfl rfl rfl (by cases bb <;> rfl) ?tt ?hh ?ot ?ok ?jj; (case tt => exact clhK); (case hh => exact clhK); (case ot => exact clkK); (case ok => exact clkK); (case jj => refine ss_loop hX (fun _ : Unit => k6T W1 (none) k (erO 12) (none) 0) (fun _ => k6H bb z T R ⟨W, st, kd, wd, vl, ch⟩ W1 (none) 0 0 (.ff) (none)) (fun _ => True) (fun _ => 0) () trivial ?_; intro _ _ I2 _; refine sxb hX [.r 29] [] 100 rfl trivial ?_; exact ss_sw hX (sw_ss hX (cs := []) (fin0 I2))))
set_option maxHeartbeats 8000000 in
theorem kendn {W : List Int} {st kd wd vl : Int} {ch : Bool} {m0 seq : Int} {j : Nat} {fd tm seq' : Int} {j' : Nat} {fd' tm' : Int} {l0 a : List Int} (hT : T ≤ 8) (hm1 : n0 ≤ m0) (hm2 : m0 - n0 ≤ (T : Int) + 3) (hl0 : 0 < l0.length) (hl8 : l0.length ≤ 8) (ha8 : a.length ≤ 8) (hla : (srt l0).length = a.length) (hall : ∀ i, i < (srt l0).length → hasL a ((srt l0).getD i 0) = true) (hup : ∀ i, i + 1 < (srt l0).length → (srt l0).getD i 0 < (srt l0).getD (i + 1) 0) (hk : hasL a k = false) :
    SS (hXKl ⟨false, T, R, 0, ⟨k, 0, seq, j, fd, 0, 0, false, 12, tm⟩, ⟨f00, 0, 0⟩, false, ⟨0, seq', j', fd', some l0, 0, tm'⟩, ⟨l00, 0, 0⟩, 1, 0, 9⟩) (At ρ w) (Is .tt [keE bb z, pinE RTV]) ⟨[], [], Tryz.f5, Tryz.f5.ntmps, [keE bb z, pinE RTV], contF Tryz.f5 24 [], k24T W1 (some a) k n0 m0, kfH bb z T R ⟨W, st, kd, wd, vl, ch⟩ W1 (some a) ⟨k, 0, seq, j, fd, 0, 0, false, 12, tm⟩ ⟨0, seq', j', fd', some l0, 0, tm'⟩⟩ := by
  have hX := hXKl ⟨false, T, R, 0, ⟨k, 0, seq, j, fd, 0, 0, false, 12, tm⟩, ⟨f00, 0, 0⟩, false, ⟨0, seq', j', fd', some l0, 0, tm'⟩, ⟨l00, 0, 0⟩, 1, 0, 9⟩
  have e3 : IntKind.i64.wrap ((T : Int) + 3) = (T : Int) + 3 := wi64 (by omega) (by omega)
  have emn : IntKind.i64.wrap (m0 - n0) = m0 - n0 := wi64 (by omega) (by omega)
  have hmn : ¬ (T : Int) + 3 < m0 - n0 := by omega
  have tsz : ((XKl ⟨false, T, R, 0, ⟨k, 0, seq, j, fd, 0, 0, false, 12, tm⟩, ⟨f00, 0, 0⟩, false, ⟨0, seq', j', fd', some l0, 0, tm'⟩, ⟨l00, 0, 0⟩, 1, 0, 9⟩).TE 3).size = 1 := rfl
  have hls : (srt l0).length = l0.length := srt_len l0
  have hls2 : l0.length = (srt l0).length := hls.symm
  have hl12 : l0.length ≤ 12 := by omega
  have hla2 : l0.length = a.length := by omega
  have ha9 : a.length < 1000000 := by omega
  have fin0 : ∀ I2 : Act → World → Prop, SS hX (At ρ w) (Is .tt [keE bb z, pinE RTV]) ⟨[], [], Tryz.f5, Tryz.f5.ntmps, [keE bb z, pinE RTV], contF Tryz.f5 29 [I2], k6T W1 (some a) k (erO 12) (some (srt l0)) (srt l0).length, k6H bb z T R ⟨W, st, kd, wd, vl, ch⟩ W1 (some a) 0 0 (.ff) (some (srt l0))⟩ := fun I2 => by
    dsimp only [k6T, k6H, kdH, slV, slE]
    refine sx hX [] 4000 rfl (by (simp [-List.getD_eq_getElem?_getD, -List.length_eq_zero_iff, conjP])) ?_
    refine sx hX [.F] 4000 rfl (by (simp [-List.getD_eq_getElem?_getD, -List.length_eq_zero_iff, conjP, hls, hla2, ha9])) ?_
    refine sx hX [.T] 4000 rfl (by (simp [-List.getD_eq_getElem?_getD, -List.length_eq_zero_iff, conjP, hk])) ?_
    refine sx hX [.T] 4000 rfl (by (simp [-List.getD_eq_getElem?_getD, -List.length_eq_zero_iff, conjP, addOP])) ?_
    refine sx hX [.T] 4000 rfl (by (simp [-List.getD_eq_getElem?_getD, -List.length_eq_zero_iff, conjP, addOP])) ?_
    (refine ss_end hX [0, 1] rfl rfl trivial rfl rfl rfl (by cases bb <;> rfl) ?tt ?hh ?ot ?ok; (case tt => first | exact clhK); (case hh => exact clhK); (case ot => exact clkK); (case ok => exact clkK))
  have inner : ∀ I2 i, i ≤ (srt l0).length → (i < (srt l0).length → KJ ⟨false, T, R, 0, ⟨k, 0, seq, j, fd, 0, 0, false, 12, tm⟩, ⟨f00, 0, 0⟩, false, ⟨0, seq', j', fd', some l0, 0, tm'⟩, ⟨l00, 0, 0⟩, 1, 0, 9⟩ bb z ρ w I2 29 (k6T W1 (some a) k (erO 12) (some (srt l0)) (i + 1)) (k6H bb z T R ⟨W, st, kd, wd, vl, ch⟩ W1 (some a) 0 0 (.ff) (some (srt l0)))) → SS hX (At ρ w) (Is .tt [keE bb z, pinE RTV]) ⟨[], [], Tryz.f5, Tryz.f5.ntmps, [keE bb z, pinE RTV], contF Tryz.f5 29 [I2], k6T W1 (some a) k (erO 12) (some (srt l0)) i, k6H bb z T R ⟨W, st, kd, wd, vl, ch⟩ W1 (some a) 0 0 (.ff) (some (srt l0))⟩ := fun I2 i hi back => by
    by_cases hlt : i < (srt l0).length
    · have back' : KJ (kp0 T R) bb z ρ w I2 29 (k6T W1 (some a) k (erO 12) (some (srt l0)) (i + 1)) (k6H bb z T R ⟨W, st, kd, wd, vl, ch⟩ W1 (some a) 0 0 (.ff) (some (srt l0))) := fun cs TT H hsub => ss_sw (hXKl (kp0 T R)) (sw_ss hX (back hlt cs TT H hsub))
      by_cases i0 : i = 0
      · exact ss_sw hX (sw_ss (hXKl (kp0 T R)) (cs := []) (kx0n (by omega) ha8 hlt i0 (hall i hlt) back'))
      · exact ss_sw hX (sw_ss (hXKl (kp0 T R)) (cs := []) (kx1n (by omega) ha8 hlt (by omega) (by have := hup (i - 1) (by omega); rwa [show i - 1 + 1 = i by omega] at this) (hall i hlt) back'))
    · have e : i = (srt l0).length := by omega
      subst e
      exact fin0 I2
  dsimp only [k24T, kfH, kdH, slV, slE]
  refine sxb hX [.l] [] 4000 rfl (by (simp [-List.getD_eq_getElem?_getD, -List.length_eq_zero_iff, conjP, hla2] <;> (first | omega | ((repeat' (refine And.intro ?_ ?_)) <;> (first | omega | exact decide_eq_false (by omega) | exact decide_eq_true (by omega)))))) ?_
  refine sxb hX [.l] [.F] 4000 rfl (by (simp [-List.getD_eq_getElem?_getD, -List.length_eq_zero_iff, conjP])) ?_
  refine sxb hX [.l] [.F] 4000 rfl (by (simp [-List.getD_eq_getElem?_getD, -List.length_eq_zero_iff, conjP, addOP])) ?_
  refine sxb hX [.l] [.F] 4000 rfl (by (simp [-List.getD_eq_getElem?_getD, -List.length_eq_zero_iff, conjP, addOP, e3, emn, hmn])) ?_
  refine sxb hX [.l] [.F] 4000 rfl (by (simp [-List.getD_eq_getElem?_getD, -List.length_eq_zero_iff, conjP, addOP])) ?_
  refine sxb hX [.l] [.F] 4000 rfl (by (simp [-List.getD_eq_getElem?_getD, -List.length_eq_zero_iff, conjP, addOP, hla2])) ?_
  (refine ss_sub hX (T' := k6T W1 (some a) k (erO 12) (some (srt l0)) 0) (H' := k6H bb z T R ⟨W, st, kd, wd, vl, ch⟩ W1 (some a) 0 0 (.ff) (some (srt l0))) [0, 1, 2, 3, 4, 5, 6, 10, 11] rfl rfl rfl (by cases bb <;> rfl) ?tt ?hh ?ot ?ok ?jj; (case tt => exact clhK); (case hh => exact clhK); (case ot => exact clkK); (case ok => exact clkK); (case jj => refine ss_loop hX (fun i : Nat => k6T W1 (some a) k (erO 12) (some (srt l0)) i) (fun _ => k6H bb z T R ⟨W, st, kd, wd, vl, ch⟩ W1 (some a) 0 0 (.ff) (some (srt l0))) (fun i => i ≤ (srt l0).length) (fun i => (srt l0).length - i) 0 (Nat.zero_le _) ?_; intro i hi I2 back; refine sxb hX [.r 29] [] 100 rfl trivial ?_; exact ss_sw hX (sw_ss hX (cs := []) (inner I2 i hi (fun hlt => back (i + 1) hlt (by omega))))))
set_option maxHeartbeats 8000000 in
theorem kendy {W : List Int} {st kd wd vl : Int} {ch : Bool} {m0 seq : Int} {j : Nat} {fd tm seq' : Int} {j' : Nat} {fd' tm' : Int} {l0 a : List Int} {p : Nat} (hT : T ≤ 8) (hm1 : n0 ≤ m0) (hm2 : m0 - n0 ≤ (T : Int) + 3) (hl0 : 0 < l0.length) (hl8 : l0.length ≤ 8) (ha8 : a.length ≤ 8) (hla : (srt l0).length = a.length) (hall : ∀ i, i < (srt l0).length → hasL a ((srt l0).getD i 0) = true) (hup : ∀ i, i + 1 < (srt l0).length → (srt l0).getD i 0 < (srt l0).getD (i + 1) 0) (hk : hasL a k = true) (hr : rightB (T : Int) 4 1 2 4 1 6 0 R = true) (hp : p < T) (hW : W1.length = 11 + 10 * T) (hpk : W1.getD (fP p) 0 = eK k) (k1 : 1 ≤ k) (k2 : k ≤ 20) :
    SS (hXKl ⟨false, T, R, 0, ⟨k, 0, seq, j, fd, (p : Int), k, bK k, 0, tm⟩, ⟨f00, 0, 0⟩, false, ⟨0, seq', j', fd', some l0, 0, tm'⟩, ⟨l00, 0, 0⟩, 0, 0, 9⟩) (At ρ w) (Is .tt [keE bb z, pinE RTV]) ⟨[], [], Tryz.f5, Tryz.f5.ntmps, [keE bb z, pinE RTV], contF Tryz.f5 24 [], k24T W1 (some a) k n0 m0, kfH bb z T R ⟨W, st, kd, wd, vl, ch⟩ W1 (some a) ⟨k, 0, seq, j, fd, (p : Int), k, bK k, 0, tm⟩ ⟨0, seq', j', fd', some l0, 0, tm'⟩⟩ := by
  have hX := hXKl ⟨false, T, R, 0, ⟨k, 0, seq, j, fd, (p : Int), k, bK k, 0, tm⟩, ⟨f00, 0, 0⟩, false, ⟨0, seq', j', fd', some l0, 0, tm'⟩, ⟨l00, 0, 0⟩, 0, 0, 9⟩
  have e3 : IntKind.i64.wrap ((T : Int) + 3) = (T : Int) + 3 := wi64 (by omega) (by omega)
  have emn : IntKind.i64.wrap (m0 - n0) = m0 - n0 := wi64 (by omega) (by omega)
  have hmn : ¬ (T : Int) + 3 < m0 - n0 := by omega
  have tsz : ((XKl ⟨false, T, R, 0, ⟨k, 0, seq, j, fd, (p : Int), k, bK k, 0, tm⟩, ⟨f00, 0, 0⟩, false, ⟨0, seq', j', fd', some l0, 0, tm'⟩, ⟨l00, 0, 0⟩, 0, 0, 9⟩).TE 3).size = 1 := rfl
  have hls : (srt l0).length = l0.length := srt_len l0
  have hls2 : l0.length = (srt l0).length := hls.symm
  have hl12 : l0.length ≤ 12 := by omega
  have hla2 : l0.length = a.length := by omega
  have ha9 : a.length < 1000000 := by omega
  have en := fent_at (R := R) hp
  have el : ((fP p : Nat) : Int) < (W1.length : Int) := by unfold fP; omega
  have ee := eK_2 k1 k2
  have ek0 : 0 ≤ eK k := by omega
  have ek1 : eK k < 18446744073709551616 := by omega
  have eky : kyW (eK k) = k := by unfold kyW; rw [if_pos (eK_is k1 k2), eK_4]
  have ebk := bk_at k (by omega)
  have hfin : (bK k == (k.tmod 2 == 1)) = true := by rw [ebk]; exact beq_self_eq_true _
  have hp1 : -9223372036854775808 ≤ (p : Int) := by omega
  have hp2 : (p : Int) < 9223372036854775808 := by omega
  have fin0 : ∀ I2 : Act → World → Prop, SS hX (At ρ w) (Is .tt [keE bb z, pinE RTV]) ⟨[], [], Tryz.f5, Tryz.f5.ntmps, [keE bb z, pinE RTV], contF Tryz.f5 29 [I2], k6T W1 (some a) k (.niliface) (some (srt l0)) (srt l0).length, k6H bb z T R ⟨W, st, kd, wd, vl, ch⟩ W1 (some a) (p : Int) k (.bool (bK k)) (some (srt l0))⟩ := fun I2 => by
    dsimp only [k6T, k6H, kdH, slV, slE]
    refine sx hX [] 4000 rfl (by (simp [-List.getD_eq_getElem?_getD, -List.length_eq_zero_iff, conjP])) ?_
    refine sx hX [.F] 4000 rfl (by (simp [-List.getD_eq_getElem?_getD, -List.length_eq_zero_iff, conjP, hls, hla2, ha9])) ?_
    refine sx hX [.F] 4000 rfl (by (simp [-List.getD_eq_getElem?_getD, -List.length_eq_zero_iff, conjP, hk, en, el, ek0, ek1, hpk, hp1, hp2, hr, Int.toNat_natCast] <;> (first | omega | ((repeat' (refine And.intro ?_ ?_)) <;> (first | omega | exact decide_eq_false (by omega) | exact decide_eq_true (by omega)))))) ?_
    refine sx hX [.T] 4000 rfl (by (simp [-List.getD_eq_getElem?_getD, -List.length_eq_zero_iff, conjP, addOP])) ?_
    refine sx hX [.T] 4000 rfl (by (simp [-List.getD_eq_getElem?_getD, -List.length_eq_zero_iff, conjP, addOP, en, eky, hpk, Int.toNat_natCast])) ?_
    refine sx hX [.T] 4000 rfl (by (simp [-List.getD_eq_getElem?_getD, -List.length_eq_zero_iff, conjP])) ?_
    (refine ss_end hX [0, 1] rfl rfl trivial rfl rfl rfl (by cases bb <;> rfl) ?tt ?hh ?ot ?ok; (case tt => first | exact hfin | exact clhK); (case hh => exact clhK); (case ot => exact clkK); (case ok => exact clkK))
  have inner : ∀ I2 i, i ≤ (srt l0).length → (i < (srt l0).length → KJ ⟨false, T, R, 0, ⟨k, 0, seq, j, fd, (p : Int), k, bK k, 0, tm⟩, ⟨f00, 0, 0⟩, false, ⟨0, seq', j', fd', some l0, 0, tm'⟩, ⟨l00, 0, 0⟩, 0, 0, 9⟩ bb z ρ w I2 29 (k6T W1 (some a) k (.niliface) (some (srt l0)) (i + 1)) (k6H bb z T R ⟨W, st, kd, wd, vl, ch⟩ W1 (some a) (p : Int) k (.bool (bK k)) (some (srt l0)))) → SS hX (At ρ w) (Is .tt [keE bb z, pinE RTV]) ⟨[], [], Tryz.f5, Tryz.f5.ntmps, [keE bb z, pinE RTV], contF Tryz.f5 29 [I2], k6T W1 (some a) k (.niliface) (some (srt l0)) i, k6H bb z T R ⟨W, st, kd, wd, vl, ch⟩ W1 (some a) (p : Int) k (.bool (bK k)) (some (srt l0))⟩ := fun I2 i hi back => by
    by_cases hlt : i < (srt l0).length
    · have back' : KJ (kp0 T R) bb z ρ w I2 29 (k6T W1 (some a) k (.niliface) (some (srt l0)) (i + 1)) (k6H bb z T R ⟨W, st, kd, wd, vl, ch⟩ W1 (some a) (p : Int) k (.bool (bK k)) (some (srt l0))) := fun cs TT H hsub => ss_sw (hXKl (kp0 T R)) (sw_ss hX (back hlt cs TT H hsub))
      by_cases i0 : i = 0
      · exact ss_sw hX (sw_ss (hXKl (kp0 T R)) (cs := []) (kx0y (by omega) ha8 hlt i0 (hall i hlt) back'))
      · exact ss_sw hX (sw_ss (hXKl (kp0 T R)) (cs := []) (kx1y (by omega) ha8 hlt (by omega) (by have := hup (i - 1) (by omega); rwa [show i - 1 + 1 = i by omega] at this) (hall i hlt) back'))
    · have e : i = (srt l0).length := by omega
      subst e
      exact fin0 I2
  dsimp only [k24T, kfH, kdH, slV, slE]
  refine sxb hX [.l] [] 4000 rfl (by (simp [-List.getD_eq_getElem?_getD, -List.length_eq_zero_iff, conjP, hla2] <;> (first | omega | ((repeat' (refine And.intro ?_ ?_)) <;> (first | omega | exact decide_eq_false (by omega) | exact decide_eq_true (by omega)))))) ?_
  refine sxb hX [.l] [.F] 4000 rfl (by (simp [-List.getD_eq_getElem?_getD, -List.length_eq_zero_iff, conjP])) ?_
  refine sxb hX [.l] [.F] 4000 rfl (by (simp [-List.getD_eq_getElem?_getD, -List.length_eq_zero_iff, conjP, addOP])) ?_
  refine sxb hX [.l] [.F] 4000 rfl (by (simp [-List.getD_eq_getElem?_getD, -List.length_eq_zero_iff, conjP, addOP, e3, emn, hmn])) ?_
  refine sxb hX [.l] [.F] 4000 rfl (by (simp [-List.getD_eq_getElem?_getD, -List.length_eq_zero_iff, conjP, addOP])) ?_
  refine sxb hX [.l] [.F] 4000 rfl (by (simp [-List.getD_eq_getElem?_getD, -List.length_eq_zero_iff, conjP, addOP, hla2])) ?_
  (refine ss_sub hX (T' := k6T W1 (some a) k (.niliface) (some (srt l0)) 0) (H' := k6H bb z T R ⟨W, st, kd, wd, vl, ch⟩ W1 (some a) (p : Int) k (.bool (bK k)) (some (srt l0))) [0, 1, 2, 3, 4, 5, 6, 10, 11] rfl rfl rfl (by cases bb <;> rfl) ?tt ?hh ?ot ?ok ?jj; (case tt => exact clhK); (case hh => exact clhK); (case ot => exact clkK); (case ok => exact clkK); (case jj => refine ss_loop hX (fun i : Nat => k6T W1 (some a) k (.niliface) (some (srt l0)) i) (fun _ => k6H bb z T R ⟨W, st, kd, wd, vl, ch⟩ W1 (some a) (p : Int) k (.bool (bK k)) (some (srt l0))) (fun i => i ≤ (srt l0).length) (fun i => (srt l0).length - i) 0 (Nat.zero_le _) ?_; intro i hi I2 back; refine sxb hX [.r 29] [] 100 rfl trivial ?_; exact ss_sw hX (sw_ss hX (cs := []) (inner I2 i hi (fun hlt => back (i + 1) hlt (by omega))))))
end
end Go.Proofs.YtkkddjchkkaagaaGreatDoor
