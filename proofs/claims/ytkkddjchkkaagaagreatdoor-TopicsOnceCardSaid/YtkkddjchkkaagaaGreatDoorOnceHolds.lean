/- TopicsOnce: what is looked at behind each turn. -/
import Derived.Test.YtkkddjchkkaagaaGreatDoorOnceBusy
namespace Go.Proofs.YtkkddjchkkaagaaGreatDoor
open Go Go.Hx
set_option maxRecDepth 8000
theorem clhO {P : Prop} (h : P := by repeat' (first | exact rfl | exact trivial | exact sim_refl _ | exact simO_refl _ | exact sim_erV | exact subE_same rfl ren_scE | exact subE_same rfl ren_slE | exact sim_slVr rfl | exact subE_hdE rfl rfl rfl | exact subE_ruE rfl rfl | exact sim_crP rfl | exact sim_rmP rfl | assumption | refine And.intro ?_ ?_)) : P := h
theorem clkO {P : Prop} (h : P := by repeat' (first | exact rfl | exact trivial | exact okE_scE | exact okE_slE | exact okP_slV rfl | exact okE_hdE (i := 9) rfl rfl | exact okE_hdE (i := 11) rfl rfl | exact okE_hdE (i := 13) rfl rfl | exact okE_ruE (h := 10) rfl | exact okE_ruE (h := 12) rfl | exact okE_ruE (h := 14) rfl | exact okP_crP (i := 9) rfl | exact okP_crP (i := 11) rfl | exact okP_crP (i := 13) rfl | exact okP_rmP (i := 9) rfl | exact okP_rmP (i := 11) rfl | exact okP_rmP (i := 13) rfl | exact okP_erV | refine And.intro ?_ ?_)) : P := h
section
variable {T : Nat} {R : Int} {N cap : Nat} {o : Nat → Int × Int × Bool × Bool} {x : AS} {ρ : Nat → Nat × Nat} {w : World} {I : Act → World → Prop} {I2 : Act → World → Prop}
/-- How many hold it, of the first clients. -/
def hoN (z : Tq) : Nat → Int
  | 0 => 0
  | 1 => b2 (hdO z.c0)
  | 2 => b2 (hdO z.c0) + b2 (hdO z.c1)
  | _ => b2 (hdO z.c0) + b2 (hdO z.c1) + b2 (hdO z.c2)
def onM (N cap : Nat) (x : AS) (j : Nat) : List (Nat × SV) := [(1, .slice 0 0 N cap), (5, .tt), (6, .ptr 2 0), (7, .ptr 3 0), (9, .slice 5 0 3 3), (10, .int .i64 (x.i : Int)), (15, .int .i64 (hoN x.z j)), (16, .int .i64 (j : Int))]
abbrev MJ (N cap : Nat) (o : Nat → Int × Int × Bool × Bool) (T : Nat) (R : Int) (x : AS) (ρ : Nat → Nat × Nat) (w : World) (I I2 : Act → World → Prop) (j : Nat) : Prop :=
  ∀ cs TT H, Sub (FEnv Tryz.prog XTm.TE hXTm.te Tryz.f8 Tryz.f8.ntmps [.obj (.rows N 4 (actR o)), pinE RTV] (Is .tt [.obj (.rows N 4 (actR o)), pinE RTV]) ρ w) TT H (onM N cap x (j + 1)) (onH N o T R x) →
    SS hXTm (At ρ w) (Is .tt [.obj (.rows N 4 (actR o)), pinE RTV]) ⟨cs, [], Tryz.f8, Tryz.f8.ntmps, [.obj (.rows N 4 (actR o)), pinE RTV], downLp (contF Tryz.f8 23 [I2, I]), TT, H⟩
abbrev MG (N cap : Nat) (o : Nat → Int × Int × Bool × Bool) (T : Nat) (R : Int) (x : AS) (ρ : Nat → Nat × Nat) (w : World) (I I2 : Act → World → Prop) (j : Nat) : Prop :=
  SS hXTm (At ρ w) (Is .tt [.obj (.rows N 4 (actR o)), pinE RTV]) ⟨[], [], Tryz.f8, Tryz.f8.ntmps, [.obj (.rows N 4 (actR o)), pinE RTV], contF Tryz.f8 23 [I2, I], onM N cap x j, onH N o T R x⟩
set_option maxHeartbeats 4000000 in
theorem mh0n (h : OInv T R N 1 x)  (hc : x.z.c0 = none) (J : MJ N cap o T R x ρ w I I2 0) : MG N cap o T R x ρ w I I2 0 := by
  have b0 := b2_r (hdO x.z.c0)
  have b1 := b2_r (hdO x.z.c1)
  have b2' := b2_r (hdO x.z.c2)
  have e1 : IntKind.i64.wrap (hoN x.z 0 + 1) = hoN x.z 0 + 1 := wi64 (by simp only [hoN]; omega) (by simp only [hoN]; omega)
  have eh : hoN x.z 0 + 0 = hoN x.z (0 + 1) := by simp [hoN, hc, hdO, b2]
  obtain ⟨i, ⟨W, st, kd, wd, vl, ch, c0, c1, c2, p0, p1, p2, k0, k1, k2⟩⟩ := x
  dsimp only at hc e1 eh
  subst hc
  rw [Int.add_zero] at eh
  have eh' := eh.symm
  have hX := hXTm
  dsimp only [MG, onM, onH, tqH]
  refine sx hX [] 4000 rfl (by (simp [-List.getD_eq_getElem?_getD, -List.length_eq_zero_iff, conjP])) ?_
  refine sx hX [.T] 4000 rfl (by (simp [-List.getD_eq_getElem?_getD, -List.length_eq_zero_iff, conjP])) ?_
  (refine J _ _ _ (sub_of [0, 1, 2, 3, 4, 5, 6, 7, 8, 9, 10, 11, 12, 13, 14] rfl rfl rfl rfl ?tt ?hh ?ot ?ok); (case tt => exact clhO); (case hh => exact clhO); (case ot => exact clkO); (case ok => exact clkO))
set_option maxHeartbeats 4000000 in
theorem mh0cf (h : OInv T R N 1 x) {lg : Bool} {key : Int} {ph : Nat} {seq : Int} {j0 : Nat} {fd : Int} {tm er pl sn fl bk ep tp : Int} {tl : Bool} (hc : x.z.c0 = some ⟨false, lg, key, ph, seq, j0, fd, false, tm, er, pl, sn, fl, bk, ep, tp, tl⟩) (J : MJ N cap o T R x ρ w I I2 0) : MG N cap o T R x ρ w I I2 0 := by
  have b0 := b2_r (hdO x.z.c0)
  have b1 := b2_r (hdO x.z.c1)
  have b2' := b2_r (hdO x.z.c2)
  have e1 : IntKind.i64.wrap (hoN x.z 0 + 1) = hoN x.z 0 + 1 := wi64 (by simp only [hoN]; omega) (by simp only [hoN]; omega)
  have eh : hoN x.z 0 + 0 = hoN x.z (0 + 1) := by simp [hoN, hc, hdO, b2]
  obtain ⟨i, ⟨W, st, kd, wd, vl, ch, c0, c1, c2, p0, p1, p2, k0, k1, k2⟩⟩ := x
  dsimp only at hc e1 eh
  subst hc
  rw [Int.add_zero] at eh
  have eh' := eh.symm
  have hX := hXTm
  dsimp only [MG, onM, onH, tqH]
  refine sx hX [] 4000 rfl (by (simp [-List.getD_eq_getElem?_getD, -List.length_eq_zero_iff, conjP])) ?_
  refine sx hX [.T] 4000 rfl (by (simp [-List.getD_eq_getElem?_getD, -List.length_eq_zero_iff, conjP])) ?_
  refine sx hX [.F] 4000 rfl (by (simp [-List.getD_eq_getElem?_getD, -List.length_eq_zero_iff, conjP])) ?_
  (refine J _ _ _ (sub_of [0, 1, 2, 3, 4, 5, 6, 7, 8, 9, 10, 11, 12, 13, 14] rfl rfl rfl rfl ?tt ?hh ?ot ?ok); (case tt => exact clhO); (case hh => exact clhO); (case ot => exact clkO); (case ok => exact clkO))
set_option maxHeartbeats 4000000 in
theorem mh0ct (h : OInv T R N 1 x) {lg : Bool} {key : Int} {ph : Nat} {seq : Int} {j0 : Nat} {fd : Int} {tm er pl sn fl bk ep tp : Int} {tl : Bool} (hc : x.z.c0 = some ⟨false, lg, key, ph, seq, j0, fd, true, tm, er, pl, sn, fl, bk, ep, tp, tl⟩) (J : MJ N cap o T R x ρ w I I2 0) : MG N cap o T R x ρ w I I2 0 := by
  have b0 := b2_r (hdO x.z.c0)
  have b1 := b2_r (hdO x.z.c1)
  have b2' := b2_r (hdO x.z.c2)
  have e1 : IntKind.i64.wrap (hoN x.z 0 + 1) = hoN x.z 0 + 1 := wi64 (by simp only [hoN]; omega) (by simp only [hoN]; omega)
  have eh : hoN x.z 0 + 1 = hoN x.z (0 + 1) := by simp [hoN, hc, hdO, b2]
  obtain ⟨i, ⟨W, st, kd, wd, vl, ch, c0, c1, c2, p0, p1, p2, k0, k1, k2⟩⟩ := x
  dsimp only at hc e1 eh
  subst hc
  skip
  have eh' := eh.symm
  have hX := hXTm
  dsimp only [MG, onM, onH, tqH]
  refine sx hX [] 4000 rfl (by (simp [-List.getD_eq_getElem?_getD, -List.length_eq_zero_iff, conjP])) ?_
  refine sx hX [.T] 4000 rfl (by (simp [-List.getD_eq_getElem?_getD, -List.length_eq_zero_iff, conjP])) ?_
  refine sx hX [.T] 4000 rfl (by (simp [-List.getD_eq_getElem?_getD, -List.length_eq_zero_iff, conjP, addOP])) ?_
  (refine J _ _ _ (sub_of [0, 1, 2, 3, 4, 5, 6, 7, 8, 9, 10, 11, 12, 13, 14] rfl rfl rfl rfl ?tt ?hh ?ot ?ok); (case tt => simp only [e1]; exact clhO); (case hh => exact clhO); (case ot => exact clkO); (case ok => exact clkO))
set_option maxHeartbeats 4000000 in
theorem mh0rf (h : OInv T R N 1 x) {lg : Bool} {key : Int} {ph : Nat} {seq : Int} {j0 : Nat} {fd : Int} {tm er pl sn fl bk ep tp : Int} {tl : Bool} (hc : x.z.c0 = some ⟨true, lg, key, ph, seq, j0, fd, false, tm, er, pl, sn, fl, bk, ep, tp, tl⟩) (J : MJ N cap o T R x ρ w I I2 0) : MG N cap o T R x ρ w I I2 0 := by
  have b0 := b2_r (hdO x.z.c0)
  have b1 := b2_r (hdO x.z.c1)
  have b2' := b2_r (hdO x.z.c2)
  have e1 : IntKind.i64.wrap (hoN x.z 0 + 1) = hoN x.z 0 + 1 := wi64 (by simp only [hoN]; omega) (by simp only [hoN]; omega)
  have eh : hoN x.z 0 + 0 = hoN x.z (0 + 1) := by simp [hoN, hc, hdO, b2]
  obtain ⟨i, ⟨W, st, kd, wd, vl, ch, c0, c1, c2, p0, p1, p2, k0, k1, k2⟩⟩ := x
  dsimp only at hc e1 eh
  subst hc
  rw [Int.add_zero] at eh
  have eh' := eh.symm
  have hX := hXTm
  dsimp only [MG, onM, onH, tqH]
  refine sx hX [] 4000 rfl (by (simp [-List.getD_eq_getElem?_getD, -List.length_eq_zero_iff, conjP])) ?_
  refine sx hX [.T] 4000 rfl (by (simp [-List.getD_eq_getElem?_getD, -List.length_eq_zero_iff, conjP])) ?_
  refine sx hX [.F] 4000 rfl (by (simp [-List.getD_eq_getElem?_getD, -List.length_eq_zero_iff, conjP, addOP])) ?_
  (refine J _ _ _ (sub_of [0, 1, 2, 3, 4, 5, 6, 7, 8, 9, 10, 11, 12, 13, 14] rfl rfl rfl rfl ?tt ?hh ?ot ?ok); (case tt => exact clhO); (case hh => exact clhO); (case ot => exact clkO); (case ok => exact clkO))
set_option maxHeartbeats 4000000 in
theorem mh0rt (h : OInv T R N 1 x) {lg : Bool} {key : Int} {ph : Nat} {seq : Int} {j0 : Nat} {fd : Int} {tm er pl sn fl bk ep tp : Int} {tl : Bool} (hc : x.z.c0 = some ⟨true, lg, key, ph, seq, j0, fd, true, tm, er, pl, sn, fl, bk, ep, tp, tl⟩) (J : MJ N cap o T R x ρ w I I2 0) : MG N cap o T R x ρ w I I2 0 := by
  have b0 := b2_r (hdO x.z.c0)
  have b1 := b2_r (hdO x.z.c1)
  have b2' := b2_r (hdO x.z.c2)
  have e1 : IntKind.i64.wrap (hoN x.z 0 + 1) = hoN x.z 0 + 1 := wi64 (by simp only [hoN]; omega) (by simp only [hoN]; omega)
  have eh : hoN x.z 0 + 1 = hoN x.z (0 + 1) := by simp [hoN, hc, hdO, b2]
  obtain ⟨i, ⟨W, st, kd, wd, vl, ch, c0, c1, c2, p0, p1, p2, k0, k1, k2⟩⟩ := x
  dsimp only at hc e1 eh
  subst hc
  skip
  have eh' := eh.symm
  have hX := hXTm
  dsimp only [MG, onM, onH, tqH]
  refine sx hX [] 4000 rfl (by (simp [-List.getD_eq_getElem?_getD, -List.length_eq_zero_iff, conjP])) ?_
  refine sx hX [.T] 4000 rfl (by (simp [-List.getD_eq_getElem?_getD, -List.length_eq_zero_iff, conjP])) ?_
  refine sx hX [.T] 4000 rfl (by (simp [-List.getD_eq_getElem?_getD, -List.length_eq_zero_iff, conjP, addOP])) ?_
  (refine J _ _ _ (sub_of [0, 1, 2, 3, 4, 5, 6, 7, 8, 9, 10, 11, 12, 13, 14] rfl rfl rfl rfl ?tt ?hh ?ot ?ok); (case tt => simp only [e1]; exact clhO); (case hh => exact clhO); (case ot => exact clkO); (case ok => exact clkO))
set_option maxHeartbeats 4000000 in
theorem mh1n (h : OInv T R N 1 x)  (hc : x.z.c1 = none) (J : MJ N cap o T R x ρ w I I2 1) : MG N cap o T R x ρ w I I2 1 := by
  have b0 := b2_r (hdO x.z.c0)
  have b1 := b2_r (hdO x.z.c1)
  have b2' := b2_r (hdO x.z.c2)
  have e1 : IntKind.i64.wrap (hoN x.z 1 + 1) = hoN x.z 1 + 1 := wi64 (by simp only [hoN]; omega) (by simp only [hoN]; omega)
  have eh : hoN x.z 1 + 0 = hoN x.z (1 + 1) := by simp [hoN, hc, hdO, b2]
  obtain ⟨i, ⟨W, st, kd, wd, vl, ch, c0, c1, c2, p0, p1, p2, k0, k1, k2⟩⟩ := x
  dsimp only at hc e1 eh
  subst hc
  rw [Int.add_zero] at eh
  have eh' := eh.symm
  have hX := hXTm
  dsimp only [MG, onM, onH, tqH]
  refine sx hX [] 4000 rfl (by (simp [-List.getD_eq_getElem?_getD, -List.length_eq_zero_iff, conjP])) ?_
  refine sx hX [.T] 4000 rfl (by (simp [-List.getD_eq_getElem?_getD, -List.length_eq_zero_iff, conjP])) ?_
  (refine J _ _ _ (sub_of [0, 1, 2, 3, 4, 5, 6, 7, 8, 9, 10, 11, 12, 13, 14] rfl rfl rfl rfl ?tt ?hh ?ot ?ok); (case tt => exact clhO); (case hh => exact clhO); (case ot => exact clkO); (case ok => exact clkO))
set_option maxHeartbeats 4000000 in
theorem mh1cf (h : OInv T R N 1 x) {lg : Bool} {key : Int} {ph : Nat} {seq : Int} {j0 : Nat} {fd : Int} {tm er pl sn fl bk ep tp : Int} {tl : Bool} (hc : x.z.c1 = some ⟨false, lg, key, ph, seq, j0, fd, false, tm, er, pl, sn, fl, bk, ep, tp, tl⟩) (J : MJ N cap o T R x ρ w I I2 1) : MG N cap o T R x ρ w I I2 1 := by
  have b0 := b2_r (hdO x.z.c0)
  have b1 := b2_r (hdO x.z.c1)
  have b2' := b2_r (hdO x.z.c2)
  have e1 : IntKind.i64.wrap (hoN x.z 1 + 1) = hoN x.z 1 + 1 := wi64 (by simp only [hoN]; omega) (by simp only [hoN]; omega)
  have eh : hoN x.z 1 + 0 = hoN x.z (1 + 1) := by simp [hoN, hc, hdO, b2]
  obtain ⟨i, ⟨W, st, kd, wd, vl, ch, c0, c1, c2, p0, p1, p2, k0, k1, k2⟩⟩ := x
  dsimp only at hc e1 eh
  subst hc
  rw [Int.add_zero] at eh
  have eh' := eh.symm
  have hX := hXTm
  dsimp only [MG, onM, onH, tqH]
  refine sx hX [] 4000 rfl (by (simp [-List.getD_eq_getElem?_getD, -List.length_eq_zero_iff, conjP])) ?_
  refine sx hX [.T] 4000 rfl (by (simp [-List.getD_eq_getElem?_getD, -List.length_eq_zero_iff, conjP])) ?_
  refine sx hX [.F] 4000 rfl (by (simp [-List.getD_eq_getElem?_getD, -List.length_eq_zero_iff, conjP])) ?_
  (refine J _ _ _ (sub_of [0, 1, 2, 3, 4, 5, 6, 7, 8, 9, 10, 11, 12, 13, 14] rfl rfl rfl rfl ?tt ?hh ?ot ?ok); (case tt => exact clhO); (case hh => exact clhO); (case ot => exact clkO); (case ok => exact clkO))
set_option maxHeartbeats 4000000 in
theorem mh1ct (h : OInv T R N 1 x) {lg : Bool} {key : Int} {ph : Nat} {seq : Int} {j0 : Nat} {fd : Int} {tm er pl sn fl bk ep tp : Int} {tl : Bool} (hc : x.z.c1 = some ⟨false, lg, key, ph, seq, j0, fd, true, tm, er, pl, sn, fl, bk, ep, tp, tl⟩) (J : MJ N cap o T R x ρ w I I2 1) : MG N cap o T R x ρ w I I2 1 := by
  have b0 := b2_r (hdO x.z.c0)
  have b1 := b2_r (hdO x.z.c1)
  have b2' := b2_r (hdO x.z.c2)
  have e1 : IntKind.i64.wrap (hoN x.z 1 + 1) = hoN x.z 1 + 1 := wi64 (by simp only [hoN]; omega) (by simp only [hoN]; omega)
  have eh : hoN x.z 1 + 1 = hoN x.z (1 + 1) := by simp [hoN, hc, hdO, b2]
  obtain ⟨i, ⟨W, st, kd, wd, vl, ch, c0, c1, c2, p0, p1, p2, k0, k1, k2⟩⟩ := x
  dsimp only at hc e1 eh
  subst hc
  skip
  have eh' := eh.symm
  have hX := hXTm
  dsimp only [MG, onM, onH, tqH]
  refine sx hX [] 4000 rfl (by (simp [-List.getD_eq_getElem?_getD, -List.length_eq_zero_iff, conjP])) ?_
  refine sx hX [.T] 4000 rfl (by (simp [-List.getD_eq_getElem?_getD, -List.length_eq_zero_iff, conjP])) ?_
  refine sx hX [.T] 4000 rfl (by (simp [-List.getD_eq_getElem?_getD, -List.length_eq_zero_iff, conjP, addOP])) ?_
  (refine J _ _ _ (sub_of [0, 1, 2, 3, 4, 5, 6, 7, 8, 9, 10, 11, 12, 13, 14] rfl rfl rfl rfl ?tt ?hh ?ot ?ok); (case tt => simp only [e1]; exact clhO); (case hh => exact clhO); (case ot => exact clkO); (case ok => exact clkO))
set_option maxHeartbeats 4000000 in
theorem mh1rf (h : OInv T R N 1 x) {lg : Bool} {key : Int} {ph : Nat} {seq : Int} {j0 : Nat} {fd : Int} {tm er pl sn fl bk ep tp : Int} {tl : Bool} (hc : x.z.c1 = some ⟨true, lg, key, ph, seq, j0, fd, false, tm, er, pl, sn, fl, bk, ep, tp, tl⟩) (J : MJ N cap o T R x ρ w I I2 1) : MG N cap o T R x ρ w I I2 1 := by
  have b0 := b2_r (hdO x.z.c0)
  have b1 := b2_r (hdO x.z.c1)
  have b2' := b2_r (hdO x.z.c2)
  have e1 : IntKind.i64.wrap (hoN x.z 1 + 1) = hoN x.z 1 + 1 := wi64 (by simp only [hoN]; omega) (by simp only [hoN]; omega)
  have eh : hoN x.z 1 + 0 = hoN x.z (1 + 1) := by simp [hoN, hc, hdO, b2]
  obtain ⟨i, ⟨W, st, kd, wd, vl, ch, c0, c1, c2, p0, p1, p2, k0, k1, k2⟩⟩ := x
  dsimp only at hc e1 eh
  subst hc
  rw [Int.add_zero] at eh
  have eh' := eh.symm
  have hX := hXTm
  dsimp only [MG, onM, onH, tqH]
  refine sx hX [] 4000 rfl (by (simp [-List.getD_eq_getElem?_getD, -List.length_eq_zero_iff, conjP])) ?_
  refine sx hX [.T] 4000 rfl (by (simp [-List.getD_eq_getElem?_getD, -List.length_eq_zero_iff, conjP])) ?_
  refine sx hX [.F] 4000 rfl (by (simp [-List.getD_eq_getElem?_getD, -List.length_eq_zero_iff, conjP, addOP])) ?_
  (refine J _ _ _ (sub_of [0, 1, 2, 3, 4, 5, 6, 7, 8, 9, 10, 11, 12, 13, 14] rfl rfl rfl rfl ?tt ?hh ?ot ?ok); (case tt => exact clhO); (case hh => exact clhO); (case ot => exact clkO); (case ok => exact clkO))
set_option maxHeartbeats 4000000 in
theorem mh1rt (h : OInv T R N 1 x) {lg : Bool} {key : Int} {ph : Nat} {seq : Int} {j0 : Nat} {fd : Int} {tm er pl sn fl bk ep tp : Int} {tl : Bool} (hc : x.z.c1 = some ⟨true, lg, key, ph, seq, j0, fd, true, tm, er, pl, sn, fl, bk, ep, tp, tl⟩) (J : MJ N cap o T R x ρ w I I2 1) : MG N cap o T R x ρ w I I2 1 := by
  have b0 := b2_r (hdO x.z.c0)
  have b1 := b2_r (hdO x.z.c1)
  have b2' := b2_r (hdO x.z.c2)
  have e1 : IntKind.i64.wrap (hoN x.z 1 + 1) = hoN x.z 1 + 1 := wi64 (by simp only [hoN]; omega) (by simp only [hoN]; omega)
  have eh : hoN x.z 1 + 1 = hoN x.z (1 + 1) := by simp [hoN, hc, hdO, b2]
  obtain ⟨i, ⟨W, st, kd, wd, vl, ch, c0, c1, c2, p0, p1, p2, k0, k1, k2⟩⟩ := x
  dsimp only at hc e1 eh
  subst hc
  skip
  have eh' := eh.symm
  have hX := hXTm
  dsimp only [MG, onM, onH, tqH]
  refine sx hX [] 4000 rfl (by (simp [-List.getD_eq_getElem?_getD, -List.length_eq_zero_iff, conjP])) ?_
  refine sx hX [.T] 4000 rfl (by (simp [-List.getD_eq_getElem?_getD, -List.length_eq_zero_iff, conjP])) ?_
  refine sx hX [.T] 4000 rfl (by (simp [-List.getD_eq_getElem?_getD, -List.length_eq_zero_iff, conjP, addOP])) ?_
  (refine J _ _ _ (sub_of [0, 1, 2, 3, 4, 5, 6, 7, 8, 9, 10, 11, 12, 13, 14] rfl rfl rfl rfl ?tt ?hh ?ot ?ok); (case tt => simp only [e1]; exact clhO); (case hh => exact clhO); (case ot => exact clkO); (case ok => exact clkO))
set_option maxHeartbeats 4000000 in
theorem mh2n (h : OInv T R N 1 x)  (hc : x.z.c2 = none) (J : MJ N cap o T R x ρ w I I2 2) : MG N cap o T R x ρ w I I2 2 := by
  have b0 := b2_r (hdO x.z.c0)
  have b1 := b2_r (hdO x.z.c1)
  have b2' := b2_r (hdO x.z.c2)
  have e1 : IntKind.i64.wrap (hoN x.z 2 + 1) = hoN x.z 2 + 1 := wi64 (by simp only [hoN]; omega) (by simp only [hoN]; omega)
  have eh : hoN x.z 2 + 0 = hoN x.z (2 + 1) := by simp [hoN, hc, hdO, b2]
  obtain ⟨i, ⟨W, st, kd, wd, vl, ch, c0, c1, c2, p0, p1, p2, k0, k1, k2⟩⟩ := x
  dsimp only at hc e1 eh
  subst hc
  rw [Int.add_zero] at eh
  have eh' := eh.symm
  have hX := hXTm
  dsimp only [MG, onM, onH, tqH]
  refine sx hX [] 4000 rfl (by (simp [-List.getD_eq_getElem?_getD, -List.length_eq_zero_iff, conjP])) ?_
  refine sx hX [.T] 4000 rfl (by (simp [-List.getD_eq_getElem?_getD, -List.length_eq_zero_iff, conjP])) ?_
  (refine J _ _ _ (sub_of [0, 1, 2, 3, 4, 5, 6, 7, 8, 9, 10, 11, 12, 13, 14] rfl rfl rfl rfl ?tt ?hh ?ot ?ok); (case tt => exact clhO); (case hh => exact clhO); (case ot => exact clkO); (case ok => exact clkO))
set_option maxHeartbeats 4000000 in
theorem mh2cf (h : OInv T R N 1 x) {lg : Bool} {key : Int} {ph : Nat} {seq : Int} {j0 : Nat} {fd : Int} {tm er pl sn fl bk ep tp : Int} {tl : Bool} (hc : x.z.c2 = some ⟨false, lg, key, ph, seq, j0, fd, false, tm, er, pl, sn, fl, bk, ep, tp, tl⟩) (J : MJ N cap o T R x ρ w I I2 2) : MG N cap o T R x ρ w I I2 2 := by
  have b0 := b2_r (hdO x.z.c0)
  have b1 := b2_r (hdO x.z.c1)
  have b2' := b2_r (hdO x.z.c2)
  have e1 : IntKind.i64.wrap (hoN x.z 2 + 1) = hoN x.z 2 + 1 := wi64 (by simp only [hoN]; omega) (by simp only [hoN]; omega)
  have eh : hoN x.z 2 + 0 = hoN x.z (2 + 1) := by simp [hoN, hc, hdO, b2]
  obtain ⟨i, ⟨W, st, kd, wd, vl, ch, c0, c1, c2, p0, p1, p2, k0, k1, k2⟩⟩ := x
  dsimp only at hc e1 eh
  subst hc
  rw [Int.add_zero] at eh
  have eh' := eh.symm
  have hX := hXTm
  dsimp only [MG, onM, onH, tqH]
  refine sx hX [] 4000 rfl (by (simp [-List.getD_eq_getElem?_getD, -List.length_eq_zero_iff, conjP])) ?_
  refine sx hX [.T] 4000 rfl (by (simp [-List.getD_eq_getElem?_getD, -List.length_eq_zero_iff, conjP])) ?_
  refine sx hX [.F] 4000 rfl (by (simp [-List.getD_eq_getElem?_getD, -List.length_eq_zero_iff, conjP])) ?_
  (refine J _ _ _ (sub_of [0, 1, 2, 3, 4, 5, 6, 7, 8, 9, 10, 11, 12, 13, 14] rfl rfl rfl rfl ?tt ?hh ?ot ?ok); (case tt => exact clhO); (case hh => exact clhO); (case ot => exact clkO); (case ok => exact clkO))
set_option maxHeartbeats 4000000 in
theorem mh2ct (h : OInv T R N 1 x) {lg : Bool} {key : Int} {ph : Nat} {seq : Int} {j0 : Nat} {fd : Int} {tm er pl sn fl bk ep tp : Int} {tl : Bool} (hc : x.z.c2 = some ⟨false, lg, key, ph, seq, j0, fd, true, tm, er, pl, sn, fl, bk, ep, tp, tl⟩) (J : MJ N cap o T R x ρ w I I2 2) : MG N cap o T R x ρ w I I2 2 := by
  have b0 := b2_r (hdO x.z.c0)
  have b1 := b2_r (hdO x.z.c1)
  have b2' := b2_r (hdO x.z.c2)
  have e1 : IntKind.i64.wrap (hoN x.z 2 + 1) = hoN x.z 2 + 1 := wi64 (by simp only [hoN]; omega) (by simp only [hoN]; omega)
  have eh : hoN x.z 2 + 1 = hoN x.z (2 + 1) := by simp [hoN, hc, hdO, b2]
  obtain ⟨i, ⟨W, st, kd, wd, vl, ch, c0, c1, c2, p0, p1, p2, k0, k1, k2⟩⟩ := x
  dsimp only at hc e1 eh
  subst hc
  skip
  have eh' := eh.symm
  have hX := hXTm
  dsimp only [MG, onM, onH, tqH]
  refine sx hX [] 4000 rfl (by (simp [-List.getD_eq_getElem?_getD, -List.length_eq_zero_iff, conjP])) ?_
  refine sx hX [.T] 4000 rfl (by (simp [-List.getD_eq_getElem?_getD, -List.length_eq_zero_iff, conjP])) ?_
  refine sx hX [.T] 4000 rfl (by (simp [-List.getD_eq_getElem?_getD, -List.length_eq_zero_iff, conjP, addOP])) ?_
  (refine J _ _ _ (sub_of [0, 1, 2, 3, 4, 5, 6, 7, 8, 9, 10, 11, 12, 13, 14] rfl rfl rfl rfl ?tt ?hh ?ot ?ok); (case tt => simp only [e1]; exact clhO); (case hh => exact clhO); (case ot => exact clkO); (case ok => exact clkO))
set_option maxHeartbeats 4000000 in
theorem mh2rf (h : OInv T R N 1 x) {lg : Bool} {key : Int} {ph : Nat} {seq : Int} {j0 : Nat} {fd : Int} {tm er pl sn fl bk ep tp : Int} {tl : Bool} (hc : x.z.c2 = some ⟨true, lg, key, ph, seq, j0, fd, false, tm, er, pl, sn, fl, bk, ep, tp, tl⟩) (J : MJ N cap o T R x ρ w I I2 2) : MG N cap o T R x ρ w I I2 2 := by
  have b0 := b2_r (hdO x.z.c0)
  have b1 := b2_r (hdO x.z.c1)
  have b2' := b2_r (hdO x.z.c2)
  have e1 : IntKind.i64.wrap (hoN x.z 2 + 1) = hoN x.z 2 + 1 := wi64 (by simp only [hoN]; omega) (by simp only [hoN]; omega)
  have eh : hoN x.z 2 + 0 = hoN x.z (2 + 1) := by simp [hoN, hc, hdO, b2]
  obtain ⟨i, ⟨W, st, kd, wd, vl, ch, c0, c1, c2, p0, p1, p2, k0, k1, k2⟩⟩ := x
  dsimp only at hc e1 eh
  subst hc
  rw [Int.add_zero] at eh
  have eh' := eh.symm
  have hX := hXTm
  dsimp only [MG, onM, onH, tqH]
  refine sx hX [] 4000 rfl (by (simp [-List.getD_eq_getElem?_getD, -List.length_eq_zero_iff, conjP])) ?_
  refine sx hX [.T] 4000 rfl (by (simp [-List.getD_eq_getElem?_getD, -List.length_eq_zero_iff, conjP])) ?_
  refine sx hX [.F] 4000 rfl (by (simp [-List.getD_eq_getElem?_getD, -List.length_eq_zero_iff, conjP, addOP])) ?_
  (refine J _ _ _ (sub_of [0, 1, 2, 3, 4, 5, 6, 7, 8, 9, 10, 11, 12, 13, 14] rfl rfl rfl rfl ?tt ?hh ?ot ?ok); (case tt => exact clhO); (case hh => exact clhO); (case ot => exact clkO); (case ok => exact clkO))
set_option maxHeartbeats 4000000 in
theorem mh2rt (h : OInv T R N 1 x) {lg : Bool} {key : Int} {ph : Nat} {seq : Int} {j0 : Nat} {fd : Int} {tm er pl sn fl bk ep tp : Int} {tl : Bool} (hc : x.z.c2 = some ⟨true, lg, key, ph, seq, j0, fd, true, tm, er, pl, sn, fl, bk, ep, tp, tl⟩) (J : MJ N cap o T R x ρ w I I2 2) : MG N cap o T R x ρ w I I2 2 := by
  have b0 := b2_r (hdO x.z.c0)
  have b1 := b2_r (hdO x.z.c1)
  have b2' := b2_r (hdO x.z.c2)
  have e1 : IntKind.i64.wrap (hoN x.z 2 + 1) = hoN x.z 2 + 1 := wi64 (by simp only [hoN]; omega) (by simp only [hoN]; omega)
  have eh : hoN x.z 2 + 1 = hoN x.z (2 + 1) := by simp [hoN, hc, hdO, b2]
  obtain ⟨i, ⟨W, st, kd, wd, vl, ch, c0, c1, c2, p0, p1, p2, k0, k1, k2⟩⟩ := x
  dsimp only at hc e1 eh
  subst hc
  skip
  have eh' := eh.symm
  have hX := hXTm
  dsimp only [MG, onM, onH, tqH]
  refine sx hX [] 4000 rfl (by (simp [-List.getD_eq_getElem?_getD, -List.length_eq_zero_iff, conjP])) ?_
  refine sx hX [.T] 4000 rfl (by (simp [-List.getD_eq_getElem?_getD, -List.length_eq_zero_iff, conjP])) ?_
  refine sx hX [.T] 4000 rfl (by (simp [-List.getD_eq_getElem?_getD, -List.length_eq_zero_iff, conjP, addOP])) ?_
  (refine J _ _ _ (sub_of [0, 1, 2, 3, 4, 5, 6, 7, 8, 9, 10, 11, 12, 13, 14] rfl rfl rfl rfl ?tt ?hh ?ot ?ok); (case tt => simp only [e1]; exact clhO); (case hh => exact clhO); (case ot => exact clkO); (case ok => exact clkO))
theorem mh0 (h : OInv T R N 1 x) (J : MJ N cap o T R x ρ w I I2 0) : MG N cap o T R x ρ w I I2 0 := by
  rcases hc : x.z.c0 with _ | ⟨rm, lg, key, ph, seq, j0, fd, hd, tm, er, pl, sn, fl, bk, ep, tp, tl⟩
  · exact mh0n h hc J
  · rcases rm with _ | _ <;> rcases hd with _ | _
    · exact mh0cf h hc J
    · exact mh0ct h hc J
    · exact mh0rf h hc J
    · exact mh0rt h hc J
theorem mh1 (h : OInv T R N 1 x) (J : MJ N cap o T R x ρ w I I2 1) : MG N cap o T R x ρ w I I2 1 := by
  rcases hc : x.z.c1 with _ | ⟨rm, lg, key, ph, seq, j0, fd, hd, tm, er, pl, sn, fl, bk, ep, tp, tl⟩
  · exact mh1n h hc J
  · rcases rm with _ | _ <;> rcases hd with _ | _
    · exact mh1cf h hc J
    · exact mh1ct h hc J
    · exact mh1rf h hc J
    · exact mh1rt h hc J
theorem mh2 (h : OInv T R N 1 x) (J : MJ N cap o T R x ρ w I I2 2) : MG N cap o T R x ρ w I I2 2 := by
  rcases hc : x.z.c2 with _ | ⟨rm, lg, key, ph, seq, j0, fd, hd, tm, er, pl, sn, fl, bk, ep, tp, tl⟩
  · exact mh2n h hc J
  · rcases rm with _ | _ <;> rcases hd with _ | _
    · exact mh2cf h hc J
    · exact mh2ct h hc J
    · exact mh2rf h hc J
    · exact mh2rt h hc J
end
end Go.Proofs.YtkkddjchkkaagaaGreatDoor
