/- TopicsOnce: all places are looked at. -/
import Derived.Test.YtkkddjchkkaagaaGreatDoorOnceHolds
namespace Go.Proofs.YtkkddjchkkaagaaGreatDoor
open Go Go.Hx
set_option maxRecDepth 8000
section
variable {T : Nat} {R : Int} {N cap : Nat} {o : Nat → Int × Int × Bool × Bool} {x : AS} {ρ : Nat → Nat × Nat} {w : World} {I : Act → World → Prop} {I2 : Act → World → Prop}
def plT (N cap : Nat) (x : AS) (n : Int) (p : Nat) : List (Nat × SV) := [(1, .slice 0 0 N cap), (5, .tt), (6, .ptr 2 0), (7, .ptr 3 0), (9, .slice 5 0 3 3), (10, .int .i64 (x.i : Int)), (15, .int .i64 n), (17, .sbuf 15 1 0 x.z.W.length), (18, slV (kyL x.z.W p) 16), (19, .int .i64 (p : Int))]
def plH (N : Nat) (o : Nat → Int × Int × Bool × Bool) (T : Nat) (R : Int) (x : AS) (p : Nat) : List HE := tqH (.obj (.rows N 4 (actR o))) T R x.z [wdE x.z.W, slE (kyL x.z.W p) .i64 3]
def plT' (N cap : Nat) (x : AS) (n : Int) (q : Option (List Int)) (p : Nat) : List (Nat × SV) := [(1, .slice 0 0 N cap), (5, .tt), (6, .ptr 2 0), (7, .ptr 3 0), (9, .slice 5 0 3 3), (10, .int .i64 (x.i : Int)), (15, .int .i64 n), (17, .sbuf 15 1 0 x.z.W.length), (18, slV q 16), (19, .int .i64 (p : Int))]
def plH' (N : Nat) (o : Nat → Int × Int × Bool × Bool) (T : Nat) (R : Int) (x : AS) (q : Option (List Int)) : List HE := tqH (.obj (.rows N 4 (actR o))) T R x.z [wdE x.z.W, slE q .i64 3]
abbrev PJ (N cap : Nat) (o : Nat → Int × Int × Bool × Bool) (T : Nat) (R : Int) (x : AS) (ρ : Nat → Nat × Nat) (w : World) (I I2 : Act → World → Prop) (n : Int) (q : Option (List Int)) (p : Nat) : Prop :=
  ∀ cs TT H, Sub (FEnv Tryz.prog XTm.TE hXTm.te Tryz.f8 Tryz.f8.ntmps [.obj (.rows N 4 (actR o)), pinE RTV] (Is .tt [.obj (.rows N 4 (actR o)), pinE RTV]) ρ w) TT H (plT' N cap x n q (p + 1)) (plH' N o T R x q) →
    SS hXTm (At ρ w) (Is .tt [.obj (.rows N 4 (actR o)), pinE RTV]) ⟨cs, [], Tryz.f8, Tryz.f8.ntmps, [.obj (.rows N 4 (actR o)), pinE RTV], downLp (contF Tryz.f8 32 [I2, I]), TT, H⟩
abbrev PG (N cap : Nat) (o : Nat → Int × Int × Bool × Bool) (T : Nat) (R : Int) (x : AS) (ρ : Nat → Nat × Nat) (w : World) (I I2 : Act → World → Prop) (n : Int) (q : Option (List Int)) (p : Nat) : Prop :=
  SS hXTm (At ρ w) (Is .tt [.obj (.rows N 4 (actR o)), pinE RTV]) ⟨[], [], Tryz.f8, Tryz.f8.ntmps, [.obj (.rows N 4 (actR o)), pinE RTV], contF Tryz.f8 32 [I2, I], plT' N cap x n q p, plH' N o T R x q⟩
set_option maxHeartbeats 4000000 in
theorem plnf0 (h : OInv T R N 1 x) (hin : x.i < N) (hi : x.i < 200) {p : Nat} (hp : p < T) (hK : isK (x.z.W.getD (eP p) 0) = false) (hlv : liW (x.z.W.getD (cP T p) 0) = false) (J : PJ N cap o T R x ρ w I I2 0 (none) p) : PG N cap o T R x ρ w I I2 0 (none) p := by
  have F := h.facts hin hi
  obtain ⟨i, ⟨W, st, kd, wd, vl, ch, c0, c1, c2, p0, p1, p2, k0, k1, k2⟩⟩ := x
  dsimp only at hin hi hK F hlv
  obtain ⟨hin1, hi1, ewi, t1, t4, r1, r8, hl, s0, s1, hw⟩ := F
  have hr := right_TR t1 t4 r1 r8
  have en := ent_at (R := R) hp
  have cn := ctl_at (R := R) hp
  have el := eP_lt' hl hp
  have cl_ := cP_lt' hl hp
  have w0 := (hw (eP p)).1
  have w1 := (hw (eP p)).2
  have v0 := (hw (cP T p)).1
  have v1 := (hw (cP T p)).2
  have hp1 : (p : Int) < (T : Int) := by omega
  have ewp : IntKind.i64.wrap ((p : Int) + 1) = ((p + 1 : Nat) : Int) := by rw [wi64 (by omega) (by omega)]; omega
  have eco : cellOff (eP p) 1 0 = eP p := by simp [cellOff]
  have kyv : kyW (W.getD (eP p) 0) = 0 := by unfold kyW; rw [hK]; rfl
  have hX := hXTm
  dsimp only [PG, plT', plH', tqH, slV, slE]
  refine sx hX [] 4000 rfl (by (simp [-List.getD_eq_getElem?_getD, -List.length_eq_zero_iff, conjP])) ?_
  refine sx hX [.T] 4000 rfl (by (simp [-List.getD_eq_getElem?_getD, -List.length_eq_zero_iff, conjP, hr, en, el, w0, w1, hp1, Int.toNat_natCast, cellOff] <;> (first | omega | ((repeat' (refine And.intro ?_ ?_)) <;> (first | omega | exact decide_eq_false (by omega) | exact decide_eq_true (by omega)))))) ?_
  refine sx hX [.F] 4000 rfl (by (simp [-List.getD_eq_getElem?_getD, -List.length_eq_zero_iff, conjP, addOP, en, hK, Int.toNat_natCast, cellOff])) ?_
  refine sx hX [.F] 4000 rfl (by (simp [-List.getD_eq_getElem?_getD, -List.length_eq_zero_iff, conjP, addOP, en, hK, Int.toNat_natCast, cellOff])) ?_
  refine sx hX [.T] 4000 rfl (by (simp [-List.getD_eq_getElem?_getD, -List.length_eq_zero_iff, conjP, hr, cn, cl_, v0, v1, Int.toNat_natCast, cellOff] <;> (first | omega | ((repeat' (refine And.intro ?_ ?_)) <;> (first | omega | exact decide_eq_false (by omega) | exact decide_eq_true (by omega)))))) ?_
  refine sx hX [.F] 4000 rfl (by (simp [-List.getD_eq_getElem?_getD, -List.length_eq_zero_iff, conjP, addOP, en, cn, hK, hlv, Int.toNat_natCast, cellOff])) ?_
  (refine J _ _ _ (sub_of [0, 1, 2, 3, 4, 5, 6, 7, 8, 9, 10, 11, 12, 13, 14, 15, 16] rfl rfl rfl rfl ?tt ?hh ?ot ?ok); (case tt => (try simp only [ewp, en, eco, Int.toNat_natCast, kyv]); exact clhO); (case hh => (try simp only [en, eco, Int.toNat_natCast, kyv]); exact clhO); (case ot => exact clkO); (case ok => exact clkO))
set_option maxHeartbeats 4000000 in
theorem plnf1 (h : OInv T R N 1 x) (hin : x.i < N) (hi : x.i < 200) {p : Nat} (hp : p < T) (hK : isK (x.z.W.getD (eP p) 0) = false) (J : PJ N cap o T R x ρ w I I2 1 (none) p) : PG N cap o T R x ρ w I I2 1 (none) p := by
  have F := h.facts hin hi
  obtain ⟨i, ⟨W, st, kd, wd, vl, ch, c0, c1, c2, p0, p1, p2, k0, k1, k2⟩⟩ := x
  dsimp only at hin hi hK F
  obtain ⟨hin1, hi1, ewi, t1, t4, r1, r8, hl, s0, s1, hw⟩ := F
  have hr := right_TR t1 t4 r1 r8
  have en := ent_at (R := R) hp
  have cn := ctl_at (R := R) hp
  have el := eP_lt' hl hp
  have cl_ := cP_lt' hl hp
  have w0 := (hw (eP p)).1
  have w1 := (hw (eP p)).2
  have v0 := (hw (cP T p)).1
  have v1 := (hw (cP T p)).2
  have hp1 : (p : Int) < (T : Int) := by omega
  have ewp : IntKind.i64.wrap ((p : Int) + 1) = ((p + 1 : Nat) : Int) := by rw [wi64 (by omega) (by omega)]; omega
  have eco : cellOff (eP p) 1 0 = eP p := by simp [cellOff]
  have kyv : kyW (W.getD (eP p) 0) = 0 := by unfold kyW; rw [hK]; rfl
  have hX := hXTm
  dsimp only [PG, plT', plH', tqH, slV, slE]
  refine sx hX [] 4000 rfl (by (simp [-List.getD_eq_getElem?_getD, -List.length_eq_zero_iff, conjP])) ?_
  refine sx hX [.T] 4000 rfl (by (simp [-List.getD_eq_getElem?_getD, -List.length_eq_zero_iff, conjP, hr, en, el, w0, w1, hp1, Int.toNat_natCast, cellOff] <;> (first | omega | ((repeat' (refine And.intro ?_ ?_)) <;> (first | omega | exact decide_eq_false (by omega) | exact decide_eq_true (by omega)))))) ?_
  refine sx hX [.F] 4000 rfl (by (simp [-List.getD_eq_getElem?_getD, -List.length_eq_zero_iff, conjP, addOP, en, hK, Int.toNat_natCast, cellOff])) ?_
  refine sx hX [.F] 4000 rfl (by (simp [-List.getD_eq_getElem?_getD, -List.length_eq_zero_iff, conjP, addOP, en, hK, Int.toNat_natCast, cellOff])) ?_
  refine sx hX [.F] 4000 rfl (by (simp [-List.getD_eq_getElem?_getD, -List.length_eq_zero_iff, conjP, addOP])) ?_
  (refine J _ _ _ (sub_of [0, 1, 2, 3, 4, 5, 6, 7, 8, 9, 10, 11, 12, 13, 14, 15, 16] rfl rfl rfl rfl ?tt ?hh ?ot ?ok); (case tt => (try simp only [ewp, en, eco, Int.toNat_natCast, kyv]); exact clhO); (case hh => (try simp only [en, eco, Int.toNat_natCast, kyv]); exact clhO); (case ot => exact clkO); (case ok => exact clkO))
set_option maxHeartbeats 4000000 in
theorem plnt0 (h : OInv T R N 1 x) (hin : x.i < N) (hi : x.i < 200) {p : Nat} (hp : p < T) (hK : isK (x.z.W.getD (eP p) 0) = true) (hlv : liW (x.z.W.getD (cP T p) 0) = true) (J : PJ N cap o T R x ρ w I I2 0 (some [(x.z.W.getD (eP p) 0 / 4)]) p) : PG N cap o T R x ρ w I I2 0 (none) p := by
  have F := h.facts hin hi
  obtain ⟨i, ⟨W, st, kd, wd, vl, ch, c0, c1, c2, p0, p1, p2, k0, k1, k2⟩⟩ := x
  dsimp only at hin hi hK F hlv
  obtain ⟨hin1, hi1, ewi, t1, t4, r1, r8, hl, s0, s1, hw⟩ := F
  have hr := right_TR t1 t4 r1 r8
  have en := ent_at (R := R) hp
  have cn := ctl_at (R := R) hp
  have el := eP_lt' hl hp
  have cl_ := cP_lt' hl hp
  have w0 := (hw (eP p)).1
  have w1 := (hw (eP p)).2
  have v0 := (hw (cP T p)).1
  have v1 := (hw (cP T p)).2
  have hp1 : (p : Int) < (T : Int) := by omega
  have ewp : IntKind.i64.wrap ((p : Int) + 1) = ((p + 1 : Nat) : Int) := by rw [wi64 (by omega) (by omega)]; omega
  have eco : cellOff (eP p) 1 0 = eP p := by simp [cellOff]
  have kyv : kyW (W.getD (eP p) 0) = W.getD (eP p) 0 / 4 := by unfold kyW; rw [hK]; rfl
  have hX := hXTm
  dsimp only [PG, plT', plH', tqH, slV, slE]
  refine sx hX [] 4000 rfl (by (simp [-List.getD_eq_getElem?_getD, -List.length_eq_zero_iff, conjP])) ?_
  refine sx hX [.T] 4000 rfl (by (simp [-List.getD_eq_getElem?_getD, -List.length_eq_zero_iff, conjP, hr, en, el, w0, w1, hp1, Int.toNat_natCast, cellOff] <;> (first | omega | ((repeat' (refine And.intro ?_ ?_)) <;> (first | omega | exact decide_eq_false (by omega) | exact decide_eq_true (by omega)))))) ?_
  refine sx hX [.T] 4000 rfl (by (simp [-List.getD_eq_getElem?_getD, -List.length_eq_zero_iff, conjP, addOP, en, hK, Int.toNat_natCast, cellOff])) ?_
  refine sx hX [.F] 4000 rfl (by (simp [-List.getD_eq_getElem?_getD, -List.length_eq_zero_iff, conjP, addOP])) ?_
  refine sx hX [.T] 4000 rfl (by (simp [-List.getD_eq_getElem?_getD, -List.length_eq_zero_iff, conjP, en, kyv, hK, Int.toNat_natCast, cellOff])) ?_
  refine sx hX [.T] 4000 rfl (by (simp [-List.getD_eq_getElem?_getD, -List.length_eq_zero_iff, conjP, hr, cn, cl_, v0, v1, Int.toNat_natCast, cellOff] <;> (first | omega | ((repeat' (refine And.intro ?_ ?_)) <;> (first | omega | exact decide_eq_false (by omega) | exact decide_eq_true (by omega)))))) ?_
  refine sx hX [.F] 4000 rfl (by (simp [-List.getD_eq_getElem?_getD, -List.length_eq_zero_iff, conjP, addOP, en, cn, hK, hlv, Int.toNat_natCast, cellOff])) ?_
  (refine J _ _ _ (sub_of [0, 1, 2, 3, 4, 5, 6, 7, 8, 9, 10, 11, 12, 13, 14, 15, 18] rfl rfl rfl rfl ?tt ?hh ?ot ?ok); (case tt => (try simp only [ewp, en, eco, Int.toNat_natCast, kyv]); exact clhO); (case hh => (try simp only [en, eco, Int.toNat_natCast, kyv]); exact clhO); (case ot => exact clkO); (case ok => exact clkO))
set_option maxHeartbeats 4000000 in
theorem plnt1 (h : OInv T R N 1 x) (hin : x.i < N) (hi : x.i < 200) {p : Nat} (hp : p < T) (hK : isK (x.z.W.getD (eP p) 0) = true) (J : PJ N cap o T R x ρ w I I2 1 (some [(x.z.W.getD (eP p) 0 / 4)]) p) : PG N cap o T R x ρ w I I2 1 (none) p := by
  have F := h.facts hin hi
  obtain ⟨i, ⟨W, st, kd, wd, vl, ch, c0, c1, c2, p0, p1, p2, k0, k1, k2⟩⟩ := x
  dsimp only at hin hi hK F
  obtain ⟨hin1, hi1, ewi, t1, t4, r1, r8, hl, s0, s1, hw⟩ := F
  have hr := right_TR t1 t4 r1 r8
  have en := ent_at (R := R) hp
  have cn := ctl_at (R := R) hp
  have el := eP_lt' hl hp
  have cl_ := cP_lt' hl hp
  have w0 := (hw (eP p)).1
  have w1 := (hw (eP p)).2
  have v0 := (hw (cP T p)).1
  have v1 := (hw (cP T p)).2
  have hp1 : (p : Int) < (T : Int) := by omega
  have ewp : IntKind.i64.wrap ((p : Int) + 1) = ((p + 1 : Nat) : Int) := by rw [wi64 (by omega) (by omega)]; omega
  have eco : cellOff (eP p) 1 0 = eP p := by simp [cellOff]
  have kyv : kyW (W.getD (eP p) 0) = W.getD (eP p) 0 / 4 := by unfold kyW; rw [hK]; rfl
  have hX := hXTm
  dsimp only [PG, plT', plH', tqH, slV, slE]
  refine sx hX [] 4000 rfl (by (simp [-List.getD_eq_getElem?_getD, -List.length_eq_zero_iff, conjP])) ?_
  refine sx hX [.T] 4000 rfl (by (simp [-List.getD_eq_getElem?_getD, -List.length_eq_zero_iff, conjP, hr, en, el, w0, w1, hp1, Int.toNat_natCast, cellOff] <;> (first | omega | ((repeat' (refine And.intro ?_ ?_)) <;> (first | omega | exact decide_eq_false (by omega) | exact decide_eq_true (by omega)))))) ?_
  refine sx hX [.T] 4000 rfl (by (simp [-List.getD_eq_getElem?_getD, -List.length_eq_zero_iff, conjP, addOP, en, hK, Int.toNat_natCast, cellOff])) ?_
  refine sx hX [.F] 4000 rfl (by (simp [-List.getD_eq_getElem?_getD, -List.length_eq_zero_iff, conjP, addOP])) ?_
  refine sx hX [.T] 4000 rfl (by (simp [-List.getD_eq_getElem?_getD, -List.length_eq_zero_iff, conjP, en, kyv, hK, Int.toNat_natCast, cellOff])) ?_
  refine sx hX [.F] 4000 rfl (by (simp [-List.getD_eq_getElem?_getD, -List.length_eq_zero_iff, conjP, addOP])) ?_
  (refine J _ _ _ (sub_of [0, 1, 2, 3, 4, 5, 6, 7, 8, 9, 10, 11, 12, 13, 14, 15, 18] rfl rfl rfl rfl ?tt ?hh ?ot ?ok); (case tt => (try simp only [ewp, en, eco, Int.toNat_natCast, kyv]); exact clhO); (case hh => (try simp only [en, eco, Int.toNat_natCast, kyv]); exact clhO); (case ot => exact clkO); (case ok => exact clkO))
set_option maxHeartbeats 4000000 in
theorem plsf0 (h : OInv T R N 1 x) (hin : x.i < N) (hi : x.i < 200) {p : Nat} (hp : p < T) {ll : List Int} (_hll : ll.length < 100) (hK : isK (x.z.W.getD (eP p) 0) = false) (hlv : liW (x.z.W.getD (cP T p) 0) = false) (J : PJ N cap o T R x ρ w I I2 0 (some ll) p) : PG N cap o T R x ρ w I I2 0 (some ll) p := by
  have F := h.facts hin hi
  obtain ⟨i, ⟨W, st, kd, wd, vl, ch, c0, c1, c2, p0, p1, p2, k0, k1, k2⟩⟩ := x
  dsimp only at hin hi hK F hlv
  obtain ⟨hin1, hi1, ewi, t1, t4, r1, r8, hl, s0, s1, hw⟩ := F
  have hr := right_TR t1 t4 r1 r8
  have en := ent_at (R := R) hp
  have cn := ctl_at (R := R) hp
  have el := eP_lt' hl hp
  have cl_ := cP_lt' hl hp
  have w0 := (hw (eP p)).1
  have w1 := (hw (eP p)).2
  have v0 := (hw (cP T p)).1
  have v1 := (hw (cP T p)).2
  have hp1 : (p : Int) < (T : Int) := by omega
  have ewp : IntKind.i64.wrap ((p : Int) + 1) = ((p + 1 : Nat) : Int) := by rw [wi64 (by omega) (by omega)]; omega
  have eco : cellOff (eP p) 1 0 = eP p := by simp [cellOff]
  have kyv : kyW (W.getD (eP p) 0) = 0 := by unfold kyW; rw [hK]; rfl
  have hX := hXTm
  dsimp only [PG, plT', plH', tqH, slV, slE]
  refine sx hX [] 4000 rfl (by (simp [-List.getD_eq_getElem?_getD, -List.length_eq_zero_iff, conjP])) ?_
  refine sx hX [.T] 4000 rfl (by (simp [-List.getD_eq_getElem?_getD, -List.length_eq_zero_iff, conjP, hr, en, el, w0, w1, hp1, Int.toNat_natCast, cellOff] <;> (first | omega | ((repeat' (refine And.intro ?_ ?_)) <;> (first | omega | exact decide_eq_false (by omega) | exact decide_eq_true (by omega)))))) ?_
  refine sx hX [.F] 4000 rfl (by (simp [-List.getD_eq_getElem?_getD, -List.length_eq_zero_iff, conjP, addOP, en, hK, Int.toNat_natCast, cellOff])) ?_
  refine sx hX [.F] 4000 rfl (by (simp [-List.getD_eq_getElem?_getD, -List.length_eq_zero_iff, conjP, addOP, en, hK, Int.toNat_natCast, cellOff])) ?_
  refine sx hX [.T] 4000 rfl (by (simp [-List.getD_eq_getElem?_getD, -List.length_eq_zero_iff, conjP, hr, cn, cl_, v0, v1, Int.toNat_natCast, cellOff] <;> (first | omega | ((repeat' (refine And.intro ?_ ?_)) <;> (first | omega | exact decide_eq_false (by omega) | exact decide_eq_true (by omega)))))) ?_
  refine sx hX [.F] 4000 rfl (by (simp [-List.getD_eq_getElem?_getD, -List.length_eq_zero_iff, conjP, addOP, en, cn, hK, hlv, Int.toNat_natCast, cellOff])) ?_
  (refine J _ _ _ (sub_of [0, 1, 2, 3, 4, 5, 6, 7, 8, 9, 10, 11, 12, 13, 14, 15, 16] rfl rfl rfl rfl ?tt ?hh ?ot ?ok); (case tt => (try simp only [ewp, en, eco, Int.toNat_natCast, kyv]); exact clhO); (case hh => (try simp only [en, eco, Int.toNat_natCast, kyv]); exact clhO); (case ot => exact clkO); (case ok => exact clkO))
set_option maxHeartbeats 4000000 in
theorem plsf1 (h : OInv T R N 1 x) (hin : x.i < N) (hi : x.i < 200) {p : Nat} (hp : p < T) {ll : List Int} (_hll : ll.length < 100) (hK : isK (x.z.W.getD (eP p) 0) = false) (J : PJ N cap o T R x ρ w I I2 1 (some ll) p) : PG N cap o T R x ρ w I I2 1 (some ll) p := by
  have F := h.facts hin hi
  obtain ⟨i, ⟨W, st, kd, wd, vl, ch, c0, c1, c2, p0, p1, p2, k0, k1, k2⟩⟩ := x
  dsimp only at hin hi hK F
  obtain ⟨hin1, hi1, ewi, t1, t4, r1, r8, hl, s0, s1, hw⟩ := F
  have hr := right_TR t1 t4 r1 r8
  have en := ent_at (R := R) hp
  have cn := ctl_at (R := R) hp
  have el := eP_lt' hl hp
  have cl_ := cP_lt' hl hp
  have w0 := (hw (eP p)).1
  have w1 := (hw (eP p)).2
  have v0 := (hw (cP T p)).1
  have v1 := (hw (cP T p)).2
  have hp1 : (p : Int) < (T : Int) := by omega
  have ewp : IntKind.i64.wrap ((p : Int) + 1) = ((p + 1 : Nat) : Int) := by rw [wi64 (by omega) (by omega)]; omega
  have eco : cellOff (eP p) 1 0 = eP p := by simp [cellOff]
  have kyv : kyW (W.getD (eP p) 0) = 0 := by unfold kyW; rw [hK]; rfl
  have hX := hXTm
  dsimp only [PG, plT', plH', tqH, slV, slE]
  refine sx hX [] 4000 rfl (by (simp [-List.getD_eq_getElem?_getD, -List.length_eq_zero_iff, conjP])) ?_
  refine sx hX [.T] 4000 rfl (by (simp [-List.getD_eq_getElem?_getD, -List.length_eq_zero_iff, conjP, hr, en, el, w0, w1, hp1, Int.toNat_natCast, cellOff] <;> (first | omega | ((repeat' (refine And.intro ?_ ?_)) <;> (first | omega | exact decide_eq_false (by omega) | exact decide_eq_true (by omega)))))) ?_
  refine sx hX [.F] 4000 rfl (by (simp [-List.getD_eq_getElem?_getD, -List.length_eq_zero_iff, conjP, addOP, en, hK, Int.toNat_natCast, cellOff])) ?_
  refine sx hX [.F] 4000 rfl (by (simp [-List.getD_eq_getElem?_getD, -List.length_eq_zero_iff, conjP, addOP, en, hK, Int.toNat_natCast, cellOff])) ?_
  refine sx hX [.F] 4000 rfl (by (simp [-List.getD_eq_getElem?_getD, -List.length_eq_zero_iff, conjP, addOP])) ?_
  (refine J _ _ _ (sub_of [0, 1, 2, 3, 4, 5, 6, 7, 8, 9, 10, 11, 12, 13, 14, 15, 16] rfl rfl rfl rfl ?tt ?hh ?ot ?ok); (case tt => (try simp only [ewp, en, eco, Int.toNat_natCast, kyv]); exact clhO); (case hh => (try simp only [en, eco, Int.toNat_natCast, kyv]); exact clhO); (case ot => exact clkO); (case ok => exact clkO))
set_option maxHeartbeats 4000000 in
theorem plst0 (h : OInv T R N 1 x) (hin : x.i < N) (hi : x.i < 200) {p : Nat} (hp : p < T) {ll : List Int} (hll : ll.length < 100) (hno : hasL ll (x.z.W.getD (eP p) 0 / 4) = false) (hK : isK (x.z.W.getD (eP p) 0) = true) (hlv : liW (x.z.W.getD (cP T p) 0) = true) (J : PJ N cap o T R x ρ w I I2 0 (some (ll ++ [(x.z.W.getD (eP p) 0 / 4)])) p) : PG N cap o T R x ρ w I I2 0 (some ll) p := by
  have F := h.facts hin hi
  obtain ⟨i, ⟨W, st, kd, wd, vl, ch, c0, c1, c2, p0, p1, p2, k0, k1, k2⟩⟩ := x
  dsimp only at hin hi hK F hlv hno
  obtain ⟨hin1, hi1, ewi, t1, t4, r1, r8, hl, s0, s1, hw⟩ := F
  have hr := right_TR t1 t4 r1 r8
  have en := ent_at (R := R) hp
  have cn := ctl_at (R := R) hp
  have el := eP_lt' hl hp
  have cl_ := cP_lt' hl hp
  have w0 := (hw (eP p)).1
  have w1 := (hw (eP p)).2
  have v0 := (hw (cP T p)).1
  have v1 := (hw (cP T p)).2
  have hp1 : (p : Int) < (T : Int) := by omega
  have ewp : IntKind.i64.wrap ((p : Int) + 1) = ((p + 1 : Nat) : Int) := by rw [wi64 (by omega) (by omega)]; omega
  have eco : cellOff (eP p) 1 0 = eP p := by simp [cellOff]
  have kyv : kyW (W.getD (eP p) 0) = W.getD (eP p) 0 / 4 := by unfold kyW; rw [hK]; rfl
  have hlen : (ll ++ [W.getD (eP p) 0 / 4]).length = ll.length + 1 := by simp
  have hlen2 := hlen.symm
  have hX := hXTm
  dsimp only [PG, plT', plH', tqH, slV, slE]
  refine sx hX [] 4000 rfl (by (simp [-List.getD_eq_getElem?_getD, -List.length_eq_zero_iff, conjP])) ?_
  refine sx hX [.T] 4000 rfl (by (simp [-List.getD_eq_getElem?_getD, -List.length_eq_zero_iff, conjP, hr, en, el, w0, w1, hp1, Int.toNat_natCast, cellOff] <;> (first | omega | ((repeat' (refine And.intro ?_ ?_)) <;> (first | omega | exact decide_eq_false (by omega) | exact decide_eq_true (by omega)))))) ?_
  refine sx hX [.T] 4000 rfl (by (simp [-List.getD_eq_getElem?_getD, -List.length_eq_zero_iff, conjP, en, hK, Int.toNat_natCast, cellOff] <;> (first | omega | ((repeat' (refine And.intro ?_ ?_)) <;> (first | omega | exact decide_eq_false (by omega) | exact decide_eq_true (by omega)))))) ?_
  refine sx hX [.F] 4000 rfl (by (simp [-List.getD_eq_getElem?_getD, -List.length_eq_zero_iff, conjP, addOP, en, kyv, hno, Int.toNat_natCast, cellOff])) ?_
  refine sx hX [.T] 4000 rfl (by (simp [-List.getD_eq_getElem?_getD, -List.length_eq_zero_iff, conjP, en, kyv, hK, Int.toNat_natCast, cellOff] <;> (first | omega | ((repeat' (refine And.intro ?_ ?_)) <;> (first | omega | exact decide_eq_false (by omega) | exact decide_eq_true (by omega)))))) ?_
  refine sx hX [.T] 4000 rfl (by (simp [-List.getD_eq_getElem?_getD, -List.length_eq_zero_iff, conjP, hr, cn, cl_, v0, v1, Int.toNat_natCast, cellOff] <;> (first | omega | ((repeat' (refine And.intro ?_ ?_)) <;> (first | omega | exact decide_eq_false (by omega) | exact decide_eq_true (by omega)))))) ?_
  refine sx hX [.F] 4000 rfl (by (simp [-List.getD_eq_getElem?_getD, -List.length_eq_zero_iff, conjP, addOP, en, cn, hK, hlv, Int.toNat_natCast, cellOff])) ?_
  (refine J _ _ _ (sub_of [0, 1, 2, 3, 4, 5, 6, 7, 8, 9, 10, 11, 12, 13, 14, 15, 18] rfl rfl rfl rfl ?tt ?hh ?ot ?ok); (case tt => (try simp only [ewp, en, eco, Int.toNat_natCast, kyv]); exact clhO); (case hh => (try simp only [en, eco, Int.toNat_natCast, kyv]); exact clhO); (case ot => exact clkO); (case ok => exact clkO))
set_option maxHeartbeats 4000000 in
theorem plst1 (h : OInv T R N 1 x) (hin : x.i < N) (hi : x.i < 200) {p : Nat} (hp : p < T) {ll : List Int} (hll : ll.length < 100) (hno : hasL ll (x.z.W.getD (eP p) 0 / 4) = false) (hK : isK (x.z.W.getD (eP p) 0) = true) (J : PJ N cap o T R x ρ w I I2 1 (some (ll ++ [(x.z.W.getD (eP p) 0 / 4)])) p) : PG N cap o T R x ρ w I I2 1 (some ll) p := by
  have F := h.facts hin hi
  obtain ⟨i, ⟨W, st, kd, wd, vl, ch, c0, c1, c2, p0, p1, p2, k0, k1, k2⟩⟩ := x
  dsimp only at hin hi hK F hno
  obtain ⟨hin1, hi1, ewi, t1, t4, r1, r8, hl, s0, s1, hw⟩ := F
  have hr := right_TR t1 t4 r1 r8
  have en := ent_at (R := R) hp
  have cn := ctl_at (R := R) hp
  have el := eP_lt' hl hp
  have cl_ := cP_lt' hl hp
  have w0 := (hw (eP p)).1
  have w1 := (hw (eP p)).2
  have v0 := (hw (cP T p)).1
  have v1 := (hw (cP T p)).2
  have hp1 : (p : Int) < (T : Int) := by omega
  have ewp : IntKind.i64.wrap ((p : Int) + 1) = ((p + 1 : Nat) : Int) := by rw [wi64 (by omega) (by omega)]; omega
  have eco : cellOff (eP p) 1 0 = eP p := by simp [cellOff]
  have kyv : kyW (W.getD (eP p) 0) = W.getD (eP p) 0 / 4 := by unfold kyW; rw [hK]; rfl
  have hlen : (ll ++ [W.getD (eP p) 0 / 4]).length = ll.length + 1 := by simp
  have hlen2 := hlen.symm
  have hX := hXTm
  dsimp only [PG, plT', plH', tqH, slV, slE]
  refine sx hX [] 4000 rfl (by (simp [-List.getD_eq_getElem?_getD, -List.length_eq_zero_iff, conjP])) ?_
  refine sx hX [.T] 4000 rfl (by (simp [-List.getD_eq_getElem?_getD, -List.length_eq_zero_iff, conjP, hr, en, el, w0, w1, hp1, Int.toNat_natCast, cellOff] <;> (first | omega | ((repeat' (refine And.intro ?_ ?_)) <;> (first | omega | exact decide_eq_false (by omega) | exact decide_eq_true (by omega)))))) ?_
  refine sx hX [.T] 4000 rfl (by (simp [-List.getD_eq_getElem?_getD, -List.length_eq_zero_iff, conjP, en, hK, Int.toNat_natCast, cellOff] <;> (first | omega | ((repeat' (refine And.intro ?_ ?_)) <;> (first | omega | exact decide_eq_false (by omega) | exact decide_eq_true (by omega)))))) ?_
  refine sx hX [.F] 4000 rfl (by (simp [-List.getD_eq_getElem?_getD, -List.length_eq_zero_iff, conjP, addOP, en, kyv, hno, Int.toNat_natCast, cellOff])) ?_
  refine sx hX [.T] 4000 rfl (by (simp [-List.getD_eq_getElem?_getD, -List.length_eq_zero_iff, conjP, en, kyv, hK, Int.toNat_natCast, cellOff] <;> (first | omega | ((repeat' (refine And.intro ?_ ?_)) <;> (first | omega | exact decide_eq_false (by omega) | exact decide_eq_true (by omega)))))) ?_
  refine sx hX [.F] 4000 rfl (by (simp [-List.getD_eq_getElem?_getD, -List.length_eq_zero_iff, conjP, addOP])) ?_
  (refine J _ _ _ (sub_of [0, 1, 2, 3, 4, 5, 6, 7, 8, 9, 10, 11, 12, 13, 14, 15, 18] rfl rfl rfl rfl ?tt ?hh ?ot ?ok); (case tt => (try simp only [ewp, en, eco, Int.toNat_natCast, kyv]); exact clhO); (case hh => (try simp only [en, eco, Int.toNat_natCast, kyv]); exact clhO); (case ot => exact clkO); (case ok => exact clkO))
end
end Go.Proofs.YtkkddjchkkaagaaGreatDoor
