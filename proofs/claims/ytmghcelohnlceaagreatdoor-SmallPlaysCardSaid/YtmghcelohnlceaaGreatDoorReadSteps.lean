/- The steps of a run that reads a small message. -/
import Derived.Test.YtmghcelohnlceaaGreatDoorWriteRow
namespace Go.Proofs.YtmghcelohnlceaaGreatDoor
open Go Go.Hx
set_option maxRecDepth 8000
/-- A run that reads, with what it has read. -/
abbrev rdO (R ep nx sn fl cm tm : Int) (e : SV) (ws : SV) : SO := .cells [.int .i64 1, .int .i64 4, .int .i64 1, .int .i64 4, .int .i64 4, .int .i64 1, .int .i64 6, .int .i64 0, .int .i64 R, .int .i64 0, .int .i64 ep, .int .i64 nx, .int .u64 sn, .int .i64 fl, .int .i64 cm, .int .i64 tm, e, ws] 105
section
variable {R ep sn fl cm tm st kd wd vl : Int} {ch : Bool} {W o : List Int}

variable (h1 : 1 ≤ R) (h2 : R ≤ 8) (hl : 16 ≤ W.length) (hs : 0 ≤ st) (hs' : st < 1000000)
include h1 h2 hl hs hs'
section
variable (hw0 : 0 ≤ W.getD 7 0) (hw1 : W.getD 7 0 < 18446744073709551616)
include hw0 hw1
set_option maxHeartbeats 4000000 in
theorem rGone0_fn (hg : ¬ (liW (W.getD 7 0) = true ∧ epW (W.getD 7 0) = ep)) : Gives Tryz.prog 14 [.ptr 0 0, .ptr 1 0] [.obj (rdO R ep 1 sn fl cm tm .niliface .nilslice), AOx 2 W st kd wd vl ch, WO W]
    (Is .tt [.obj (rdO R ep 0 (W.getD 7 0) fl cm (st + 1) (erO 22) .nilslice), AOx 2 W (st + 1) 1 7 (W.getD 7 0) false, WO W]) := by
  have h7 : 7 < W.length := by omega
  refine gives_x hXSw (fn := Tryz.f14) rfl rfl rfl rfl fun ρ w' => ?_
  rcases g1 : liW (W.getD 7 0) with _ | _
  · refine sx hXSw [] 4000 rfl (by (simp [-List.getD_eq_getElem?_getD, -List.length_eq_zero_iff, conjP])) ?_
    refine sx hXSw [.F] 4000 rfl (by (simp [-List.getD_eq_getElem?_getD, -List.length_eq_zero_iff, conjP, addOP])) ?_
    refine sx hXSw [.T] 4000 rfl (by (simp [-List.getD_eq_getElem?_getD, -List.length_eq_zero_iff, conjP, h1, h2, hs, hw0, hw1] <;> (first | omega | ((repeat' (refine And.intro ?_ ?_)) <;> (first | omega | exact decide_eq_false (by omega) | exact decide_eq_true (by omega)))))) ?_
    refine sx hXSw [.K, .K, .T] 4000 rfl (by (simp [-List.getD_eq_getElem?_getD, -List.length_eq_zero_iff, conjP, g1])) ?_
    refine sx hXSw [.F] 4000 rfl (by (simp [-List.getD_eq_getElem?_getD, -List.length_eq_zero_iff, conjP, addOP])) ?_
    (exact ss_end hXSw [0, 1, 2] rfl rfl trivial rfl rfl rfl rfl (by (repeat' (first | exact rfl | exact trivial | exact sim_refl _ | refine And.intro ?_ ?_))) (by (repeat' (first | exact rfl | exact trivial | exact sim_refl _ | refine And.intro ?_ ?_))) (by (repeat' (first | exact rfl | exact trivial | exact sim_refl _ | refine And.intro ?_ ?_))) (by (repeat' (first | exact rfl | exact trivial | exact sim_refl _ | refine And.intro ?_ ?_))))
  · have g2 : ¬ epW (W.getD 7 0) = ep := fun q => hg ⟨g1, q⟩
    refine sx hXSw [] 4000 rfl (by (simp [-List.getD_eq_getElem?_getD, -List.length_eq_zero_iff, conjP])) ?_
    refine sx hXSw [.F] 4000 rfl (by (simp [-List.getD_eq_getElem?_getD, -List.length_eq_zero_iff, conjP, addOP])) ?_
    refine sx hXSw [.T] 4000 rfl (by (simp [-List.getD_eq_getElem?_getD, -List.length_eq_zero_iff, conjP, h1, h2, hs, hw0, hw1] <;> (first | omega | ((repeat' (refine And.intro ?_ ?_)) <;> (first | omega | exact decide_eq_false (by omega) | exact decide_eq_true (by omega)))))) ?_
    refine sx hXSw [.K, .K, .F] 4000 rfl (by (simp [-List.getD_eq_getElem?_getD, -List.length_eq_zero_iff, conjP, g1])) ?_
    refine sx hXSw [.T] 4000 rfl (by (simp [-List.getD_eq_getElem?_getD, -List.length_eq_zero_iff, conjP, addOP, g2])) ?_
    refine sx hXSw [.F] 4000 rfl (by (simp [-List.getD_eq_getElem?_getD, -List.length_eq_zero_iff, conjP, addOP])) ?_
    (exact ss_end hXSw [0, 1, 2] rfl rfl trivial rfl rfl rfl rfl (by (repeat' (first | exact rfl | exact trivial | exact sim_refl _ | refine And.intro ?_ ?_))) (by (repeat' (first | exact rfl | exact trivial | exact sim_refl _ | refine And.intro ?_ ?_))) (by (repeat' (first | exact rfl | exact trivial | exact sim_refl _ | refine And.intro ?_ ?_))) (by (repeat' (first | exact rfl | exact trivial | exact sim_refl _ | refine And.intro ?_ ?_))))
set_option maxHeartbeats 4000000 in
theorem rGone1_fn (hg : ¬ (liW (W.getD 7 0) = true ∧ epW (W.getD 7 0) = ep)) : Gives Tryz.prog 14 [.ptr 0 0, .ptr 1 0] [.obj (rdO R ep 1 sn fl cm tm .niliface (.sbuf 3 1 0 o.length)), AOx 2 W st kd wd vl ch, WO W, wdE o]
    (Is .tt [.obj (rdO R ep 0 (W.getD 7 0) fl cm (st + 1) (erO 22) .nilslice), AOx 2 W (st + 1) 1 7 (W.getD 7 0) false, WO W, wdE o]) := by
  have h7 : 7 < W.length := by omega
  refine gives_x hXSw (fn := Tryz.f14) rfl rfl rfl rfl fun ρ w' => ?_
  rcases g1 : liW (W.getD 7 0) with _ | _
  · refine sx hXSw [] 4000 rfl (by (simp [-List.getD_eq_getElem?_getD, -List.length_eq_zero_iff, conjP])) ?_
    refine sx hXSw [.F] 4000 rfl (by (simp [-List.getD_eq_getElem?_getD, -List.length_eq_zero_iff, conjP, addOP])) ?_
    refine sx hXSw [.T] 4000 rfl (by (simp [-List.getD_eq_getElem?_getD, -List.length_eq_zero_iff, conjP, h1, h2, hs, hw0, hw1] <;> (first | omega | ((repeat' (refine And.intro ?_ ?_)) <;> (first | omega | exact decide_eq_false (by omega) | exact decide_eq_true (by omega)))))) ?_
    refine sx hXSw [.K, .K, .T] 4000 rfl (by (simp [-List.getD_eq_getElem?_getD, -List.length_eq_zero_iff, conjP, g1])) ?_
    refine sx hXSw [.F] 4000 rfl (by (simp [-List.getD_eq_getElem?_getD, -List.length_eq_zero_iff, conjP, addOP])) ?_
    (exact ss_end hXSw [0, 1, 2, 3] rfl rfl trivial rfl rfl rfl rfl (by (repeat' (first | exact rfl | exact trivial | exact sim_refl _ | refine And.intro ?_ ?_))) (by (repeat' (first | exact rfl | exact trivial | exact sim_refl _ | refine And.intro ?_ ?_))) (by (repeat' (first | exact rfl | exact trivial | exact sim_refl _ | refine And.intro ?_ ?_))) (by (repeat' (first | exact rfl | exact trivial | exact sim_refl _ | refine And.intro ?_ ?_))))
  · have g2 : ¬ epW (W.getD 7 0) = ep := fun q => hg ⟨g1, q⟩
    refine sx hXSw [] 4000 rfl (by (simp [-List.getD_eq_getElem?_getD, -List.length_eq_zero_iff, conjP])) ?_
    refine sx hXSw [.F] 4000 rfl (by (simp [-List.getD_eq_getElem?_getD, -List.length_eq_zero_iff, conjP, addOP])) ?_
    refine sx hXSw [.T] 4000 rfl (by (simp [-List.getD_eq_getElem?_getD, -List.length_eq_zero_iff, conjP, h1, h2, hs, hw0, hw1] <;> (first | omega | ((repeat' (refine And.intro ?_ ?_)) <;> (first | omega | exact decide_eq_false (by omega) | exact decide_eq_true (by omega)))))) ?_
    refine sx hXSw [.K, .K, .F] 4000 rfl (by (simp [-List.getD_eq_getElem?_getD, -List.length_eq_zero_iff, conjP, g1])) ?_
    refine sx hXSw [.T] 4000 rfl (by (simp [-List.getD_eq_getElem?_getD, -List.length_eq_zero_iff, conjP, addOP, g2])) ?_
    refine sx hXSw [.F] 4000 rfl (by (simp [-List.getD_eq_getElem?_getD, -List.length_eq_zero_iff, conjP, addOP])) ?_
    (exact ss_end hXSw [0, 1, 2, 3] rfl rfl trivial rfl rfl rfl rfl (by (repeat' (first | exact rfl | exact trivial | exact sim_refl _ | refine And.intro ?_ ?_))) (by (repeat' (first | exact rfl | exact trivial | exact sim_refl _ | refine And.intro ?_ ?_))) (by (repeat' (first | exact rfl | exact trivial | exact sim_refl _ | refine And.intro ?_ ?_))) (by (repeat' (first | exact rfl | exact trivial | exact sim_refl _ | refine And.intro ?_ ?_))))
section
variable (g1 : liW (W.getD 7 0) = true) (g2 : epW (W.getD 7 0) = ep)
include g1 g2
set_option maxHeartbeats 4000000 in
theorem rEmpty0_fn (g3 : geW (W.getD 7 0) = 0) : Gives Tryz.prog 14 [.ptr 0 0, .ptr 1 0] [.obj (rdO R ep 1 sn fl cm tm .niliface .nilslice), AOx 2 W st kd wd vl ch, WO W]
    (Is .tt [.obj (rdO R ep 0 (W.getD 7 0) fl cm (st + 1) (erO 20) .nilslice), AOx 2 W (st + 1) 1 7 (W.getD 7 0) false, WO W]) := by
  have h7 : 7 < W.length := by omega
  refine gives_x hXSw (fn := Tryz.f14) rfl rfl rfl rfl fun ρ w' => ?_
  refine sx hXSw [] 4000 rfl (by (simp [-List.getD_eq_getElem?_getD, -List.length_eq_zero_iff, conjP])) ?_
  refine sx hXSw [.F] 4000 rfl (by (simp [-List.getD_eq_getElem?_getD, -List.length_eq_zero_iff, conjP, addOP])) ?_
  refine sx hXSw [.T] 4000 rfl (by (simp [-List.getD_eq_getElem?_getD, -List.length_eq_zero_iff, conjP, h1, h2, hs, hw0, hw1] <;> (first | omega | ((repeat' (refine And.intro ?_ ?_)) <;> (first | omega | exact decide_eq_false (by omega) | exact decide_eq_true (by omega)))))) ?_
  refine sx hXSw [.K, .K, .F] 4000 rfl (by (simp [-List.getD_eq_getElem?_getD, -List.length_eq_zero_iff, conjP, g1])) ?_
  refine sx hXSw [.F] 4000 rfl (by (simp [-List.getD_eq_getElem?_getD, -List.length_eq_zero_iff, conjP, addOP, g2])) ?_
  refine sx hXSw [.T] 4000 rfl (by (simp [-List.getD_eq_getElem?_getD, -List.length_eq_zero_iff, conjP, addOP, g3])) ?_
  refine sx hXSw [.F] 4000 rfl (by (simp [-List.getD_eq_getElem?_getD, -List.length_eq_zero_iff, conjP, addOP])) ?_
  (exact ss_end hXSw [0, 1, 2] rfl rfl trivial rfl rfl rfl rfl (by (repeat' (first | exact rfl | exact trivial | exact sim_refl _ | refine And.intro ?_ ?_))) (by (repeat' (first | exact rfl | exact trivial | exact sim_refl _ | refine And.intro ?_ ?_))) (by (repeat' (first | exact rfl | exact trivial | exact sim_refl _ | refine And.intro ?_ ?_))) (by (repeat' (first | exact rfl | exact trivial | exact sim_refl _ | refine And.intro ?_ ?_))))
set_option maxHeartbeats 4000000 in
theorem rLook0_fn (g3 : ¬ geW (W.getD 7 0) = 0) : Gives Tryz.prog 14 [.ptr 0 0, .ptr 1 0] [.obj (rdO R ep 1 sn fl cm tm .niliface .nilslice), AOx 2 W st kd wd vl ch, WO W]
    (Is .ff [.obj (rdO R ep 3 (W.getD 7 0) fl cm (st + 1) .niliface .nilslice), AOx 2 W (st + 1) 1 7 (W.getD 7 0) false, WO W]) := by
  have h7 : 7 < W.length := by omega
  refine gives_x hXSw (fn := Tryz.f14) rfl rfl rfl rfl fun ρ w' => ?_
  refine sx hXSw [] 4000 rfl (by (simp [-List.getD_eq_getElem?_getD, -List.length_eq_zero_iff, conjP])) ?_
  refine sx hXSw [.F] 4000 rfl (by (simp [-List.getD_eq_getElem?_getD, -List.length_eq_zero_iff, conjP, addOP])) ?_
  refine sx hXSw [.T] 4000 rfl (by (simp [-List.getD_eq_getElem?_getD, -List.length_eq_zero_iff, conjP, h1, h2, hs, hw0, hw1] <;> (first | omega | ((repeat' (refine And.intro ?_ ?_)) <;> (first | omega | exact decide_eq_false (by omega) | exact decide_eq_true (by omega)))))) ?_
  refine sx hXSw [.K, .K, .F] 4000 rfl (by (simp [-List.getD_eq_getElem?_getD, -List.length_eq_zero_iff, conjP, g1])) ?_
  refine sx hXSw [.F] 4000 rfl (by (simp [-List.getD_eq_getElem?_getD, -List.length_eq_zero_iff, conjP, addOP, g2])) ?_
  refine sx hXSw [.F] 4000 rfl (by (simp [-List.getD_eq_getElem?_getD, -List.length_eq_zero_iff, conjP, addOP, g3])) ?_
  (exact ss_end hXSw [0, 1, 2] rfl rfl trivial rfl rfl rfl rfl (by (repeat' (first | exact rfl | exact trivial | exact sim_refl _ | refine And.intro ?_ ?_))) (by (repeat' (first | exact rfl | exact trivial | exact sim_refl _ | refine And.intro ?_ ?_))) (by (repeat' (first | exact rfl | exact trivial | exact sim_refl _ | refine And.intro ?_ ?_))) (by (repeat' (first | exact rfl | exact trivial | exact sim_refl _ | refine And.intro ?_ ?_))))
set_option maxHeartbeats 4000000 in
theorem rEmpty1_fn (g3 : geW (W.getD 7 0) = 0) : Gives Tryz.prog 14 [.ptr 0 0, .ptr 1 0] [.obj (rdO R ep 1 sn fl cm tm .niliface (.sbuf 3 1 0 o.length)), AOx 2 W st kd wd vl ch, WO W, wdE o]
    (Is .tt [.obj (rdO R ep 0 (W.getD 7 0) fl cm (st + 1) (erO 20) .nilslice), AOx 2 W (st + 1) 1 7 (W.getD 7 0) false, WO W, wdE o]) := by
  have h7 : 7 < W.length := by omega
  refine gives_x hXSw (fn := Tryz.f14) rfl rfl rfl rfl fun ρ w' => ?_
  refine sx hXSw [] 4000 rfl (by (simp [-List.getD_eq_getElem?_getD, -List.length_eq_zero_iff, conjP])) ?_
  refine sx hXSw [.F] 4000 rfl (by (simp [-List.getD_eq_getElem?_getD, -List.length_eq_zero_iff, conjP, addOP])) ?_
  refine sx hXSw [.T] 4000 rfl (by (simp [-List.getD_eq_getElem?_getD, -List.length_eq_zero_iff, conjP, h1, h2, hs, hw0, hw1] <;> (first | omega | ((repeat' (refine And.intro ?_ ?_)) <;> (first | omega | exact decide_eq_false (by omega) | exact decide_eq_true (by omega)))))) ?_
  refine sx hXSw [.K, .K, .F] 4000 rfl (by (simp [-List.getD_eq_getElem?_getD, -List.length_eq_zero_iff, conjP, g1])) ?_
  refine sx hXSw [.F] 4000 rfl (by (simp [-List.getD_eq_getElem?_getD, -List.length_eq_zero_iff, conjP, addOP, g2])) ?_
  refine sx hXSw [.T] 4000 rfl (by (simp [-List.getD_eq_getElem?_getD, -List.length_eq_zero_iff, conjP, addOP, g3])) ?_
  refine sx hXSw [.F] 4000 rfl (by (simp [-List.getD_eq_getElem?_getD, -List.length_eq_zero_iff, conjP, addOP])) ?_
  (exact ss_end hXSw [0, 1, 2, 3] rfl rfl trivial rfl rfl rfl rfl (by (repeat' (first | exact rfl | exact trivial | exact sim_refl _ | refine And.intro ?_ ?_))) (by (repeat' (first | exact rfl | exact trivial | exact sim_refl _ | refine And.intro ?_ ?_))) (by (repeat' (first | exact rfl | exact trivial | exact sim_refl _ | refine And.intro ?_ ?_))) (by (repeat' (first | exact rfl | exact trivial | exact sim_refl _ | refine And.intro ?_ ?_))))
set_option maxHeartbeats 4000000 in
theorem rLook1_fn (g3 : ¬ geW (W.getD 7 0) = 0) : Gives Tryz.prog 14 [.ptr 0 0, .ptr 1 0] [.obj (rdO R ep 1 sn fl cm tm .niliface (.sbuf 3 1 0 o.length)), AOx 2 W st kd wd vl ch, WO W, wdE o]
    (Is .ff [.obj (rdO R ep 3 (W.getD 7 0) fl cm (st + 1) .niliface .nilslice), AOx 2 W (st + 1) 1 7 (W.getD 7 0) false, WO W, wdE o]) := by
  have h7 : 7 < W.length := by omega
  refine gives_x hXSw (fn := Tryz.f14) rfl rfl rfl rfl fun ρ w' => ?_
  refine sx hXSw [] 4000 rfl (by (simp [-List.getD_eq_getElem?_getD, -List.length_eq_zero_iff, conjP])) ?_
  refine sx hXSw [.F] 4000 rfl (by (simp [-List.getD_eq_getElem?_getD, -List.length_eq_zero_iff, conjP, addOP])) ?_
  refine sx hXSw [.T] 4000 rfl (by (simp [-List.getD_eq_getElem?_getD, -List.length_eq_zero_iff, conjP, h1, h2, hs, hw0, hw1] <;> (first | omega | ((repeat' (refine And.intro ?_ ?_)) <;> (first | omega | exact decide_eq_false (by omega) | exact decide_eq_true (by omega)))))) ?_
  refine sx hXSw [.K, .K, .F] 4000 rfl (by (simp [-List.getD_eq_getElem?_getD, -List.length_eq_zero_iff, conjP, g1])) ?_
  refine sx hXSw [.F] 4000 rfl (by (simp [-List.getD_eq_getElem?_getD, -List.length_eq_zero_iff, conjP, addOP, g2])) ?_
  refine sx hXSw [.F] 4000 rfl (by (simp [-List.getD_eq_getElem?_getD, -List.length_eq_zero_iff, conjP, addOP, g3])) ?_
  (exact ss_end hXSw [0, 1, 2, 3] rfl rfl trivial rfl rfl rfl rfl (by (repeat' (first | exact rfl | exact trivial | exact sim_refl _ | refine And.intro ?_ ?_))) (by (repeat' (first | exact rfl | exact trivial | exact sim_refl _ | refine And.intro ?_ ?_))) (by (repeat' (first | exact rfl | exact trivial | exact sim_refl _ | refine And.intro ?_ ?_))) (by (repeat' (first | exact rfl | exact trivial | exact sim_refl _ | refine And.intro ?_ ?_))))
end
end
section
variable (n0 : 0 ≤ sn) (n1 : sn < 18446744073709551616)
include n0 n1
set_option maxHeartbeats 4000000 in
theorem rWord0_fn : Gives Tryz.prog 14 [.ptr 0 0, .ptr 1 0] [.obj (rdO R ep 3 sn fl cm tm .niliface .nilslice), AOx 2 W st kd wd vl ch, WO W]
    (Is .ff [.obj (rdO R ep 3 sn fl cm tm .niliface (.sbuf 3 1 0 1)), AOx 2 W (st + 1) 1 (8 + 4 * (geW sn % 2)) (W.getD (8 + 4 * (geW sn % 2)).toNat 0) false, WO W, wdE [W.getD (8 + 4 * (geW sn % 2)).toNat 0]]) := by
  have q0 := ge_lo (w := sn)
  have q1 := ge_hi (w := sn)
  have e3 : (geW sn).tmod 2 = geW sn % 2 := by rw [Int.tmod_eq_emod_of_nonneg (by omega)]
  have e4 : 0 ≤ geW sn % 2 := by omega
  have e5 : geW sn % 2 ≤ 1 := by omega
  have e6 : IntKind.i64.wrap (8 + 4 * (geW sn % 2)) = 8 + 4 * (geW sn % 2) := wi64 (by omega) (by omega)
  have e7 : 0 ≤ 8 + 4 * (geW sn % 2) := by omega
  have e8 : 8 + 4 * (geW sn % 2) < W.length := by omega
  refine gives_x hXSw (fn := Tryz.f14) rfl rfl rfl rfl fun ρ w' => ?_
  refine sx hXSw [] 4000 rfl (by (simp [-List.getD_eq_getElem?_getD, -List.length_eq_zero_iff, conjP])) ?_
  refine sx hXSw [.F] 4000 rfl (by (simp [-List.getD_eq_getElem?_getD, -List.length_eq_zero_iff, conjP, addOP])) ?_
  refine sx hXSw [.F] 4000 rfl (by (simp [-List.getD_eq_getElem?_getD, -List.length_eq_zero_iff, conjP, addOP])) ?_
  refine sx hXSw [.T] 4000 rfl (by (simp [-List.getD_eq_getElem?_getD, -List.length_eq_zero_iff, conjP, getH, HE.so, h1, h2, hs, n0, n1, e3, e4, e5, e6, e7, e8] <;> (first | omega | ((repeat' (refine And.intro ?_ ?_)) <;> (first | omega | exact decide_eq_false (by omega) | exact decide_eq_true (by omega)))))) ?_
  refine sx hXSw [.F] 4000 rfl (by (simp [-List.getD_eq_getElem?_getD, -List.length_eq_zero_iff, conjP, addOP])) ?_
  (refine ss_end hXSw [0, 1, 2, 4] rfl rfl trivial rfl rfl rfl rfl (by (repeat' (first | exact rfl | exact trivial | exact sim_refl _ | refine And.intro ?_ ?_))) ?hh (by (repeat' (first | exact rfl | exact trivial | exact sim_refl _ | refine And.intro ?_ ?_))) (by (repeat' (first | exact rfl | exact trivial | exact sim_refl _ | refine And.intro ?_ ?_))); (case hh => simp only [e3, Int.add_zero, e6]; (repeat' (first | exact rfl | exact trivial | exact sim_refl _ | (simp; done) | refine And.intro ?_ ?_)); done))
set_option maxHeartbeats 4000000 in
theorem rWord1_fn (i2 : o.length < 4) : Gives Tryz.prog 14 [.ptr 0 0, .ptr 1 0] [.obj (rdO R ep 3 sn fl cm tm .niliface (.sbuf 3 1 0 o.length)), AOx 2 W st kd wd vl ch, WO W, wdE o]
    (Is .ff [.obj (rdO R ep (if o.length + 1 = 4 then 4 else 3) sn fl cm tm .niliface (.sbuf 4 1 0 (o.length + 1))), AOx 2 W (st + 1) 1 (8 + 4 * (geW sn % 2) + (o.length : Int)) (W.getD (8 + 4 * (geW sn % 2) + (o.length : Int)).toNat 0) false, WO W, .opq, wdE (o ++ [W.getD (8 + 4 * (geW sn % 2) + (o.length : Int)).toNat 0])]) := by
  have q0 := ge_lo (w := sn)
  have q1 := ge_hi (w := sn)
  have e3 : (geW sn).tmod 2 = geW sn % 2 := by rw [Int.tmod_eq_emod_of_nonneg (by omega)]
  have e4 : 0 ≤ geW sn % 2 := by omega
  have e5 : geW sn % 2 ≤ 1 := by omega
  have e6 : IntKind.i64.wrap (8 + 4 * (geW sn % 2) + (o.length : Int)) = 8 + 4 * (geW sn % 2) + o.length := wi64 (by omega) (by omega)
  have e7 : 0 ≤ 8 + 4 * (geW sn % 2) + (o.length : Int) := by omega
  have e8 : 8 + 4 * (geW sn % 2) + (o.length : Int) < W.length := by omega
  by_cases c : o.length + 1 = 4
  · rw [if_pos c]
    have c' : ((o.length + 1 : Nat) : Int) = 4 := by omega
    refine gives_x hXSw (fn := Tryz.f14) rfl rfl rfl rfl fun ρ w' => ?_
    refine sx hXSw [] 4000 rfl (by (simp [-List.getD_eq_getElem?_getD, -List.length_eq_zero_iff, conjP])) ?_
    refine sx hXSw [.F] 4000 rfl (by (simp [-List.getD_eq_getElem?_getD, -List.length_eq_zero_iff, conjP, addOP])) ?_
    refine sx hXSw [.F] 4000 rfl (by (simp [-List.getD_eq_getElem?_getD, -List.length_eq_zero_iff, conjP, addOP])) ?_
    refine sx hXSw [.T] 4000 rfl (by (simp [-List.getD_eq_getElem?_getD, -List.length_eq_zero_iff, conjP, getH, HE.so, h1, h2, hs, n0, n1, e3, e4, e5, e6, e7, e8] <;> (first | omega | ((repeat' (refine And.intro ?_ ?_)) <;> (first | omega | exact decide_eq_false (by omega) | exact decide_eq_true (by omega)))))) ?_
    refine sx hXSw [.T] 4000 rfl (by (simp [-List.getD_eq_getElem?_getD, -List.length_eq_zero_iff, conjP, addOP, c'])) ?_
    (refine ss_end hXSw [0, 1, 2, 3, 5] rfl rfl trivial rfl rfl rfl rfl (by (repeat' (first | exact rfl | exact trivial | exact sim_refl _ | refine And.intro ?_ ?_))) ?hh (by (repeat' (first | exact rfl | exact trivial | exact sim_refl _ | refine And.intro ?_ ?_))) (by (repeat' (first | exact rfl | exact trivial | exact sim_refl _ | refine And.intro ?_ ?_))); (case hh => simp only [e3, e6]; (repeat' (first | exact rfl | exact trivial | exact sim_refl _ | (simp; done) | refine And.intro ?_ ?_)); done))
  · rw [if_neg c]
    have c' : ¬ ((o.length + 1 : Nat) : Int) = 4 := by omega
    refine gives_x hXSw (fn := Tryz.f14) rfl rfl rfl rfl fun ρ w' => ?_
    refine sx hXSw [] 4000 rfl (by (simp [-List.getD_eq_getElem?_getD, -List.length_eq_zero_iff, conjP])) ?_
    refine sx hXSw [.F] 4000 rfl (by (simp [-List.getD_eq_getElem?_getD, -List.length_eq_zero_iff, conjP, addOP])) ?_
    refine sx hXSw [.F] 4000 rfl (by (simp [-List.getD_eq_getElem?_getD, -List.length_eq_zero_iff, conjP, addOP])) ?_
    refine sx hXSw [.T] 4000 rfl (by (simp [-List.getD_eq_getElem?_getD, -List.length_eq_zero_iff, conjP, getH, HE.so, h1, h2, hs, n0, n1, e3, e4, e5, e6, e7, e8] <;> (first | omega | ((repeat' (refine And.intro ?_ ?_)) <;> (first | omega | exact decide_eq_false (by omega) | exact decide_eq_true (by omega)))))) ?_
    refine sx hXSw [.F] 4000 rfl (by (simp [-List.getD_eq_getElem?_getD, -List.length_eq_zero_iff, conjP, addOP] <;> (first | omega | ((repeat' (refine And.intro ?_ ?_)) <;> (first | omega | exact decide_eq_false (by omega) | exact decide_eq_true (by omega)))))) ?_
    (refine ss_end hXSw [0, 1, 2, 3, 5] rfl rfl trivial rfl rfl rfl rfl (by (repeat' (first | exact rfl | exact trivial | exact sim_refl _ | refine And.intro ?_ ?_))) ?hh (by (repeat' (first | exact rfl | exact trivial | exact sim_refl _ | refine And.intro ?_ ?_))) (by (repeat' (first | exact rfl | exact trivial | exact sim_refl _ | refine And.intro ?_ ?_))); (case hh => simp only [e3, e6]; (repeat' (first | exact rfl | exact trivial | exact sim_refl _ | (simp; done) | refine And.intro ?_ ?_)); done))
variable (hw0 : 0 ≤ W.getD 7 0) (hw1 : W.getD 7 0 < 18446744073709551616)
include hw0 hw1
set_option maxHeartbeats 4000000 in
theorem rStill_fn (g1 : stillB sn (W.getD 7 0) = true) : Gives Tryz.prog 14 [.ptr 0 0, .ptr 1 0] [.obj (rdO R ep 4 sn fl cm tm .niliface (.sbuf 3 1 0 o.length)), AOx 2 W st kd wd vl ch, WO W, wdE o]
    (Is .tt [.obj (rdO R ep 0 sn fl cm tm .niliface (.sbuf 3 1 0 o.length)), AOx 2 W (st + 1) 1 7 (W.getD 7 0) false, WO W, wdE o]) := by
  have h7 : 7 < W.length := by omega
  refine gives_x hXSw (fn := Tryz.f14) rfl rfl rfl rfl fun ρ w' => ?_
  refine sx hXSw [] 4000 rfl (by (simp [-List.getD_eq_getElem?_getD, -List.length_eq_zero_iff, conjP])) ?_
  refine sx hXSw [.F] 4000 rfl (by (simp [-List.getD_eq_getElem?_getD, -List.length_eq_zero_iff, conjP, addOP])) ?_
  refine sx hXSw [.F] 4000 rfl (by (simp [-List.getD_eq_getElem?_getD, -List.length_eq_zero_iff, conjP, addOP])) ?_
  refine sx hXSw [.F] 4000 rfl (by (simp [-List.getD_eq_getElem?_getD, -List.length_eq_zero_iff, conjP, addOP])) ?_
  refine sx hXSw [.T] 4000 rfl (by (simp [-List.getD_eq_getElem?_getD, -List.length_eq_zero_iff, conjP, getH, HE.so, h1, h2, hs, hw0, hw1, n0, n1] <;> (first | omega | ((repeat' (refine And.intro ?_ ?_)) <;> (first | omega | exact decide_eq_false (by omega) | exact decide_eq_true (by omega)))))) ?_
  refine sx hXSw [.T] 4000 rfl (by (simp [-List.getD_eq_getElem?_getD, -List.length_eq_zero_iff, conjP, addOP, g1])) ?_
  refine sx hXSw [.T] 4000 rfl (by (simp [-List.getD_eq_getElem?_getD, -List.length_eq_zero_iff, conjP, addOP])) ?_
  (exact ss_end hXSw [0, 1, 2, 3] rfl rfl trivial rfl rfl rfl rfl (by (repeat' (first | exact rfl | exact trivial | exact sim_refl _ | refine And.intro ?_ ?_))) (by (repeat' (first | exact rfl | exact trivial | exact sim_refl _ | refine And.intro ?_ ?_))) (by (repeat' (first | exact rfl | exact trivial | exact sim_refl _ | refine And.intro ?_ ?_))) (by (repeat' (first | exact rfl | exact trivial | exact sim_refl _ | refine And.intro ?_ ?_))))
set_option maxHeartbeats 4000000 in
theorem rFail_fn (hf0 : 0 ≤ fl) (hf : fl + 1 < R) (g1 : stillB sn (W.getD 7 0) = false) : Gives Tryz.prog 14 [.ptr 0 0, .ptr 1 0] [.obj (rdO R ep 4 sn fl cm tm .niliface (.sbuf 3 1 0 o.length)), AOx 2 W st kd wd vl ch, WO W, wdE o]
    (Is .ff [.obj (rdO R ep 1 sn (fl + 1) cm tm .niliface (.sbuf 3 1 0 o.length)), AOx 2 W (st + 1) 1 7 (W.getD 7 0) false, WO W, wdE o]) := by
  have h7 : 7 < W.length := by omega
  have e1 : IntKind.i64.wrap (fl + 1) = fl + 1 := wi64 (by omega) (by omega)
  have e2 : ¬ fl + 1 = R := by omega
  refine gives_x hXSw (fn := Tryz.f14) rfl rfl rfl rfl fun ρ w' => ?_
  refine sx hXSw [] 4000 rfl (by (simp [-List.getD_eq_getElem?_getD, -List.length_eq_zero_iff, conjP])) ?_
  refine sx hXSw [.F] 4000 rfl (by (simp [-List.getD_eq_getElem?_getD, -List.length_eq_zero_iff, conjP, addOP])) ?_
  refine sx hXSw [.F] 4000 rfl (by (simp [-List.getD_eq_getElem?_getD, -List.length_eq_zero_iff, conjP, addOP])) ?_
  refine sx hXSw [.F] 4000 rfl (by (simp [-List.getD_eq_getElem?_getD, -List.length_eq_zero_iff, conjP, addOP])) ?_
  refine sx hXSw [.T] 4000 rfl (by (simp [-List.getD_eq_getElem?_getD, -List.length_eq_zero_iff, conjP, getH, HE.so, h1, h2, hs, hw0, hw1, n0, n1] <;> (first | omega | ((repeat' (refine And.intro ?_ ?_)) <;> (first | omega | exact decide_eq_false (by omega) | exact decide_eq_true (by omega)))))) ?_
  refine sx hXSw [.F] 4000 rfl (by (simp [-List.getD_eq_getElem?_getD, -List.length_eq_zero_iff, conjP, addOP, g1])) ?_
  refine sx hXSw [.F] 4000 rfl (by (simp [-List.getD_eq_getElem?_getD, -List.length_eq_zero_iff, conjP, addOP, e1, e2])) ?_
  (refine ss_end hXSw [0, 1, 2, 3] rfl rfl trivial rfl rfl rfl rfl (by (repeat' (first | exact rfl | exact trivial | exact sim_refl _ | refine And.intro ?_ ?_))) ?hh (by (repeat' (first | exact rfl | exact trivial | exact sim_refl _ | refine And.intro ?_ ?_))) (by (repeat' (first | exact rfl | exact trivial | exact sim_refl _ | refine And.intro ?_ ?_))); (case hh => simp only [e1]; (repeat' (first | exact rfl | exact trivial | exact sim_refl _ | refine And.intro ?_ ?_)); done))
set_option maxHeartbeats 4000000 in
theorem rFailL_fn (_hf0 : 0 ≤ fl) (hf : fl + 1 = R) (g1 : stillB sn (W.getD 7 0) = false) : Gives Tryz.prog 14 [.ptr 0 0, .ptr 1 0] [.obj (rdO R ep 4 sn fl cm tm .niliface (.sbuf 3 1 0 o.length)), AOx 2 W st kd wd vl ch, WO W, wdE o]
    (Is .tt [.obj (rdO R ep 0 sn (fl + 1) cm tm (erO 17) (.sbuf 3 1 0 o.length)), AOx 2 W (st + 1) 1 7 (W.getD 7 0) false, WO W, wdE o]) := by
  have h7 : 7 < W.length := by omega
  have e1 : IntKind.i64.wrap (fl + 1) = R := by rw [wi64 (by omega) (by omega)]; exact hf
  rw [hf]
  refine gives_x hXSw (fn := Tryz.f14) rfl rfl rfl rfl fun ρ w' => ?_
  refine sx hXSw [] 4000 rfl (by (simp [-List.getD_eq_getElem?_getD, -List.length_eq_zero_iff, conjP])) ?_
  refine sx hXSw [.F] 4000 rfl (by (simp [-List.getD_eq_getElem?_getD, -List.length_eq_zero_iff, conjP, addOP])) ?_
  refine sx hXSw [.F] 4000 rfl (by (simp [-List.getD_eq_getElem?_getD, -List.length_eq_zero_iff, conjP, addOP])) ?_
  refine sx hXSw [.F] 4000 rfl (by (simp [-List.getD_eq_getElem?_getD, -List.length_eq_zero_iff, conjP, addOP])) ?_
  refine sx hXSw [.T] 4000 rfl (by (simp [-List.getD_eq_getElem?_getD, -List.length_eq_zero_iff, conjP, getH, HE.so, h1, h2, hs, hw0, hw1, n0, n1] <;> (first | omega | ((repeat' (refine And.intro ?_ ?_)) <;> (first | omega | exact decide_eq_false (by omega) | exact decide_eq_true (by omega)))))) ?_
  refine sx hXSw [.F] 4000 rfl (by (simp [-List.getD_eq_getElem?_getD, -List.length_eq_zero_iff, conjP, addOP, g1])) ?_
  refine sx hXSw [.T] 4000 rfl (by (simp [-List.getD_eq_getElem?_getD, -List.length_eq_zero_iff, conjP, addOP, e1])) ?_
  refine sx hXSw [.F] 4000 rfl (by (simp [-List.getD_eq_getElem?_getD, -List.length_eq_zero_iff, conjP, addOP])) ?_
  (refine ss_end hXSw [0, 1, 2, 3] rfl rfl trivial rfl rfl rfl rfl (by (repeat' (first | exact rfl | exact trivial | exact sim_refl _ | refine And.intro ?_ ?_))) ?hh (by (repeat' (first | exact rfl | exact trivial | exact sim_refl _ | refine And.intro ?_ ?_))) (by (repeat' (first | exact rfl | exact trivial | exact sim_refl _ | refine And.intro ?_ ?_))); (case hh => simp only [e1]; (repeat' (first | exact rfl | exact trivial | exact sim_refl _ | refine And.intro ?_ ?_)); done))
end
end
end Go.Proofs.YtmghcelohnlceaaGreatDoor
