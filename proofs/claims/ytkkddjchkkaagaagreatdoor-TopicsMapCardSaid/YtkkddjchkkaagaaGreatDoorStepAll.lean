/- The steps that look; all steps, told by the law's function; as a row of the table. -/
import Derived.Test.YtkkddjchkkaagaaGreatDoorLook
namespace Go.Proofs.YtkkddjchkkaagaaGreatDoor
open Go Go.Hx
set_option maxRecDepth 8000
def lookS (T : Nat) (R : Int) (start : Nat) (s : TS) (p : Nat) (bf bk bl : Bool) : Hx.Spec := fun args H => match args with
  | [.ptr 1 0, .ptr 2 0] => match arP H 2 with
    | some (_, ⟨W, st, kd, wd, vl, ch⟩, _) => some ([LkP T R start s W st p bf bk bl, s.er = 0, H = lkH T R s W st kd wd vl ch], .tup [.int .i64 (p : Int), .bool bf, .bool (!bk), .bool bl], lkH T R { s with i := s.i + 1 } W (st + 1) 1 (eP p : Int) (W.getD (eP p) 0) false)
    | none => none
  | _ => none
theorem lookS_ok {T : Nat} {R : Int} {start : Nat} {s : TS} {p : Nat} {bf bk bl : Bool} {args : List SV} {H : List HE} {ob : List Prop} {V : SV} {L : List HE} (hs : lookS T R start s p bf bk bl args H = some (ob, V, L)) (ho : AllP ob) : Gives Tryz.prog 158 args H (Is V L) := by
  unfold lookS at hs
  split at hs
  · split at hs
    · simp only [Option.some.injEq, Prod.mk.injEq] at hs
      obtain ⟨rfl, rfl, rfl⟩ := hs
      simp only [AllP, List.mem_cons, List.not_mem_nil, or_false, forall_eq_or_imp, forall_eq] at ho
      obtain ⟨q, e0, rfl⟩ := ho
      obtain ⟨rm, lg, key, ph, seq, i, fd, hd, tm, er, pl, sn, fl, bk, ep, tp, tl⟩ := s
      obtain rfl : ph = 3 := q.h3
      obtain rfl : er = 0 := e0
      rcases rm with _ | _
      · exact lookc_fn q
      · exact lookr_fn q
    · simp at hs
  · simp at hs
def ctTv (T : Nat) (R : Int) (start : Nat) (sv : TS) (p : Nat) (bf bk bl : Bool) : Nat → Option Hx.Spec
  | 158 => some (lookS T R start sv p bf bk bl)
  | 36 => some (arStepsS)
  | _ => none
theorem ctTv_ok (T : Nat) (R : Int) (start : Nat) (sv : TS) (p : Nat) (bf bk bl : Bool) : ∀ f s args H ob V L, ctTv T R start sv p bf bk bl f = some s → s args H = some (ob, V, L) → AllP ob → Gives Tryz.prog f args H (Is V L) := by
  intro f s args H ob V L h hs ho
  unfold ctTv at h
  split at h
  · simp at h; subst h; exact lookS_ok hs ho
  · simp at h; subst h; exact arStepsS_ok hs ho
  · simp at h
noncomputable def XTv (T : Nat) (R : Int) (start : Nat) (sv : TS) (p : Nat) (bf bk bl : Bool) : Tabs := tabs tr ft xt (fun _ => none) (ctTv T R start sv p bf bk bl) 20
theorem hXTv (T : Nat) (R : Int) (start : Nat) (sv : TS) (p : Nat) (bf bk bl : Bool) : TOk Tryz.prog (XTv T R start sv p bf bk bl) := ⟨hTE, hFT, (ctTv_ok T R start sv p bf bk bl), hXT, fun t ks h => by simp [XTv, tabs] at h, mixed⟩
section
variable {T : Nat} {R : Int} {start : Nat} {W : List Int} {st kd wd vl : Int} {ch : Bool}
variable {lg : Bool} {key seq : Int} {i : Nat} {fd : Int} {hd : Bool} {tm pl sn fl bk ep tp : Int} {tl : Bool}

set_option maxHeartbeats 4000000 in
theorem t3cff (Q : LkP T R start ⟨false, lg, key, 3, seq, i, fd, hd, tm, 0, pl, sn, fl, bk, ep, tp, tl⟩ W st (tPl T start i) true true false)  : Stp T R start ⟨false, lg, key, 3, seq, i, fd, hd, tm, 0, pl, sn, fl, bk, ep, tp, tl⟩ W st kd wd vl ch ⟨⟨false, lg, key, 7, seq, (i + 1), fd, hd, (st + 1), 14, pl, sn, fl, bk, ep, tp, tl⟩, W, 1, (eP (tPl T start i) : Int), W.getD (eP (tPl T start i)) 0, false⟩ := by
  have P := Q.pre
  have hX := (hXTv T R start ⟨false, lg, key, 3, seq, i, fd, hd, tm, 0, pl, sn, fl, bk, ep, tp, tl⟩ (tPl T start i) true true false)
  show Gives Tryz.prog 55 _ _ _
  refine gives_x hX (fn := Tryz.f55) rfl rfl rfl rfl fun ρ w => ?_
  dsimp only [ruC, hoC, nxV, hlV, erV, cond_true, cond_false]
  refine sx hX [] 4000 rfl (by (simp [-List.getD_eq_getElem?_getD, -List.length_eq_zero_iff, conjP, Q, lkH, ruC, hoC, nxV, hlV, erV])) ?_
  refine sx hX [.F] 4000 rfl (by (simp [-List.getD_eq_getElem?_getD, -List.length_eq_zero_iff, conjP, addOP])) ?_
  refine sx hX [.T] 4000 rfl (by (simp [-List.getD_eq_getElem?_getD, -List.length_eq_zero_iff, conjP, getH, HE.so, ruC])) ?_
  refine sx hX [.F] 4000 rfl (by (simp [-List.getD_eq_getElem?_getD, -List.length_eq_zero_iff, conjP, addOP])) ?_
  (refine ss_end hX [0, 1, 2, 3] rfl rfl trivial rfl rfl rfl rfl ?hv ?hh ?hk ?ho; (case hv => exact clS); (case hh => exact clS); (case hk => exact clS); (case ho => exact clS))
set_option maxHeartbeats 4000000 in
theorem t3cft (Q : LkP T R start ⟨false, lg, key, 3, seq, i, fd, hd, tm, 0, pl, sn, fl, bk, ep, tp, tl⟩ W st (tPl T start i) true true true)  : Stp T R start ⟨false, lg, key, 3, seq, i, fd, hd, tm, 0, pl, sn, fl, bk, ep, tp, tl⟩ W st kd wd vl ch ⟨⟨false, lg, key, 7, seq, (i + 1), fd, hd, (st + 1), 14, pl, sn, fl, bk, ep, tp, tl⟩, W, 1, (eP (tPl T start i) : Int), W.getD (eP (tPl T start i)) 0, false⟩ := by
  have P := Q.pre
  have hX := (hXTv T R start ⟨false, lg, key, 3, seq, i, fd, hd, tm, 0, pl, sn, fl, bk, ep, tp, tl⟩ (tPl T start i) true true true)
  show Gives Tryz.prog 55 _ _ _
  refine gives_x hX (fn := Tryz.f55) rfl rfl rfl rfl fun ρ w => ?_
  dsimp only [ruC, hoC, nxV, hlV, erV, cond_true, cond_false]
  refine sx hX [] 4000 rfl (by (simp [-List.getD_eq_getElem?_getD, -List.length_eq_zero_iff, conjP, Q, lkH, ruC, hoC, nxV, hlV, erV])) ?_
  refine sx hX [.F] 4000 rfl (by (simp [-List.getD_eq_getElem?_getD, -List.length_eq_zero_iff, conjP, addOP])) ?_
  refine sx hX [.T] 4000 rfl (by (simp [-List.getD_eq_getElem?_getD, -List.length_eq_zero_iff, conjP, getH, HE.so, ruC])) ?_
  refine sx hX [.F] 4000 rfl (by (simp [-List.getD_eq_getElem?_getD, -List.length_eq_zero_iff, conjP, addOP])) ?_
  (refine ss_end hX [0, 1, 2, 3] rfl rfl trivial rfl rfl rfl rfl ?hv ?hh ?hk ?ho; (case hv => exact clS); (case hh => exact clS); (case hk => exact clS); (case ho => exact clS))
set_option maxHeartbeats 4000000 in
theorem t3ck_n (Q : LkP T R start ⟨false, lg, key, 3, seq, i, fd, hd, tm, 0, pl, sn, fl, bk, ep, tp, tl⟩ W st (tPl T start i) false true false)  : Stp T R start ⟨false, lg, key, 3, seq, i, fd, hd, tm, 0, pl, sn, fl, bk, ep, tp, tl⟩ W st kd wd vl ch ⟨⟨false, lg, key, 3, seq, (i + 1), fd, hd, tm, 0, pl, sn, fl, bk, ep, tp, tl⟩, W, 1, (eP (tPl T start i) : Int), W.getD (eP (tPl T start i)) 0, false⟩ := by
  have P := Q.pre
  have hX := (hXTv T R start ⟨false, lg, key, 3, seq, i, fd, hd, tm, 0, pl, sn, fl, bk, ep, tp, tl⟩ (tPl T start i) false true false)
  show Gives Tryz.prog 55 _ _ _
  refine gives_x hX (fn := Tryz.f55) rfl rfl rfl rfl fun ρ w => ?_
  dsimp only [ruC, hoC, nxV, hlV, erV, cond_true, cond_false]
  refine sx hX [] 4000 rfl (by (simp [-List.getD_eq_getElem?_getD, -List.length_eq_zero_iff, conjP, Q, lkH, ruC, hoC, nxV, hlV, erV])) ?_
  refine sx hX [.F] 4000 rfl (by (simp [-List.getD_eq_getElem?_getD, -List.length_eq_zero_iff, conjP, addOP])) ?_
  refine sx hX [.F] 4000 rfl (by (simp [-List.getD_eq_getElem?_getD, -List.length_eq_zero_iff, conjP, addOP])) ?_
  refine sx hX [.F] 4000 rfl (by (simp [-List.getD_eq_getElem?_getD, -List.length_eq_zero_iff, conjP, addOP])) ?_
  refine sx hX [.F] 4000 rfl (by (simp [-List.getD_eq_getElem?_getD, -List.length_eq_zero_iff, conjP, addOP])) ?_
  (refine ss_end hX [0, 1, 2, 3] rfl rfl trivial rfl rfl rfl rfl ?hv ?hh ?hk ?ho; (case hv => exact clS); (case hh => exact clS); (case hk => exact clS); (case ho => exact clS))
set_option maxHeartbeats 4000000 in
theorem t3ck_1 (Q : LkP T R start ⟨false, lg, key, 3, seq, i, fd, hd, tm, 0, (-1), sn, fl, bk, ep, tp, tl⟩ W st (tPl T start i) false true true)  : Stp T R start ⟨false, lg, key, 3, seq, i, fd, hd, tm, 0, (-1), sn, fl, bk, ep, tp, tl⟩ W st kd wd vl ch ⟨⟨false, lg, key, 7, seq, (i + 1), fd, hd, (st + 1), 15, (-1), sn, fl, bk, ep, tp, tl⟩, W, 1, (eP (tPl T start i) : Int), W.getD (eP (tPl T start i)) 0, false⟩ := by
  have P := Q.pre
  have hX := (hXTv T R start ⟨false, lg, key, 3, seq, i, fd, hd, tm, 0, (-1), sn, fl, bk, ep, tp, tl⟩ (tPl T start i) false true true)
  show Gives Tryz.prog 55 _ _ _
  refine gives_x hX (fn := Tryz.f55) rfl rfl rfl rfl fun ρ w => ?_
  dsimp only [ruC, hoC, nxV, hlV, erV, cond_true, cond_false]
  refine sx hX [] 4000 rfl (by (simp [-List.getD_eq_getElem?_getD, -List.length_eq_zero_iff, conjP, Q, lkH, ruC, hoC, nxV, hlV, erV])) ?_
  refine sx hX [.F] 4000 rfl (by (simp [-List.getD_eq_getElem?_getD, -List.length_eq_zero_iff, conjP, addOP])) ?_
  refine sx hX [.F] 4000 rfl (by (simp [-List.getD_eq_getElem?_getD, -List.length_eq_zero_iff, conjP, addOP])) ?_
  refine sx hX [.T] 4000 rfl (by (simp [-List.getD_eq_getElem?_getD, -List.length_eq_zero_iff, conjP, addOP])) ?_
  refine sx hX [.T] 4000 rfl (by (simp [-List.getD_eq_getElem?_getD, -List.length_eq_zero_iff, conjP, getH, HE.so, ruC])) ?_
  refine sx hX [.F] 4000 rfl (by (simp [-List.getD_eq_getElem?_getD, -List.length_eq_zero_iff, conjP, addOP])) ?_
  (refine ss_end hX [0, 1, 2, 3] rfl rfl trivial rfl rfl rfl rfl ?hv ?hh ?hk ?ho; (case hv => exact clS); (case hh => exact clS); (case hk => exact clS); (case ho => exact clS))
set_option maxHeartbeats 4000000 in
theorem t3ck_2 (Q : LkP T R start ⟨false, lg, key, 3, seq, i, fd, hd, tm, 0, pl, sn, fl, bk, ep, tp, tl⟩ W st (tPl T start i) false true true) (hn : ¬ pl = -1) : Stp T R start ⟨false, lg, key, 3, seq, i, fd, hd, tm, 0, pl, sn, fl, bk, ep, tp, tl⟩ W st kd wd vl ch ⟨⟨false, lg, key, 4, seq, (i + 1), fd, hd, tm, 0, pl, sn, fl, bk, ep, tp, tl⟩, W, 1, (eP (tPl T start i) : Int), W.getD (eP (tPl T start i)) 0, false⟩ := by
  have P := Q.pre
  have hX := (hXTv T R start ⟨false, lg, key, 3, seq, i, fd, hd, tm, 0, pl, sn, fl, bk, ep, tp, tl⟩ (tPl T start i) false true true)
  show Gives Tryz.prog 55 _ _ _
  refine gives_x hX (fn := Tryz.f55) rfl rfl rfl rfl fun ρ w => ?_
  dsimp only [ruC, hoC, nxV, hlV, erV, cond_true, cond_false]
  refine sx hX [] 4000 rfl (by (simp [-List.getD_eq_getElem?_getD, -List.length_eq_zero_iff, conjP, Q, lkH, ruC, hoC, nxV, hlV, erV])) ?_
  refine sx hX [.F] 4000 rfl (by (simp [-List.getD_eq_getElem?_getD, -List.length_eq_zero_iff, conjP, addOP])) ?_
  refine sx hX [.F] 4000 rfl (by (simp [-List.getD_eq_getElem?_getD, -List.length_eq_zero_iff, conjP, addOP])) ?_
  refine sx hX [.T] 4000 rfl (by (simp [-List.getD_eq_getElem?_getD, -List.length_eq_zero_iff, conjP, addOP])) ?_
  refine sx hX [.F] 4000 rfl (by (simp [-List.getD_eq_getElem?_getD, -List.length_eq_zero_iff, conjP, addOP, hn])) ?_
  refine sx hX [.T] 4000 rfl (by (simp [-List.getD_eq_getElem?_getD, -List.length_eq_zero_iff, conjP, addOP])) ?_
  (refine ss_end hX [0, 1, 2, 3] rfl rfl trivial rfl rfl rfl rfl ?hv ?hh ?hk ?ho; (case hv => exact clS); (case hh => exact clS); (case hk => exact clS); (case ho => exact clS))
set_option maxHeartbeats 4000000 in
theorem t3cg_1 (Q : LkP T R start ⟨false, lg, key, 3, seq, i, fd, hd, tm, 0, (-1), sn, fl, bk, ep, tp, tl⟩ W st (tPl T start i) false false false)  : Stp T R start ⟨false, lg, key, 3, seq, i, fd, hd, tm, 0, (-1), sn, fl, bk, ep, tp, tl⟩ W st kd wd vl ch ⟨⟨false, lg, key, 3, seq, (i + 1), fd, hd, tm, 0, ((tPl T start i : Nat) : Int), sn, fl, bk, ep, tp, tl⟩, W, 1, (eP (tPl T start i) : Int), W.getD (eP (tPl T start i)) 0, false⟩ := by
  have P := Q.pre
  have hX := (hXTv T R start ⟨false, lg, key, 3, seq, i, fd, hd, tm, 0, (-1), sn, fl, bk, ep, tp, tl⟩ (tPl T start i) false false false)
  have hpn : ¬ ((tPl T start i : Nat) : Int) = -1 := by omega
  show Gives Tryz.prog 55 _ _ _
  refine gives_x hX (fn := Tryz.f55) rfl rfl rfl rfl fun ρ w => ?_
  dsimp only [ruC, hoC, nxV, hlV, erV, cond_true, cond_false]
  refine sx hX [] 4000 rfl (by (simp [-List.getD_eq_getElem?_getD, -List.length_eq_zero_iff, conjP, Q, lkH, ruC, hoC, nxV, hlV, erV])) ?_
  refine sx hX [.T] 4000 rfl (by (simp [-List.getD_eq_getElem?_getD, -List.length_eq_zero_iff, conjP, addOP])) ?_
  refine sx hX [.T] 4000 rfl (by (simp [-List.getD_eq_getElem?_getD, -List.length_eq_zero_iff, conjP, addOP])) ?_
  refine sx hX [.F] 4000 rfl (by (simp [-List.getD_eq_getElem?_getD, -List.length_eq_zero_iff, conjP, addOP])) ?_
  refine sx hX [.F] 4000 rfl (by (simp [-List.getD_eq_getElem?_getD, -List.length_eq_zero_iff, conjP, addOP])) ?_
  refine sx hX [.F] 4000 rfl (by (simp [-List.getD_eq_getElem?_getD, -List.length_eq_zero_iff, conjP, addOP])) ?_
  (refine ss_end hX [0, 1, 2, 3] rfl rfl trivial rfl rfl rfl rfl ?hv ?hh ?hk ?ho; (case hv => exact clS); (case hh => exact clS); (case hk => exact clS); (case ho => exact clS))
set_option maxHeartbeats 4000000 in
theorem t3cg_2 (Q : LkP T R start ⟨false, lg, key, 3, seq, i, fd, hd, tm, 0, pl, sn, fl, bk, ep, tp, tl⟩ W st (tPl T start i) false false false) (hn : ¬ pl = -1) : Stp T R start ⟨false, lg, key, 3, seq, i, fd, hd, tm, 0, pl, sn, fl, bk, ep, tp, tl⟩ W st kd wd vl ch ⟨⟨false, lg, key, 3, seq, (i + 1), fd, hd, tm, 0, pl, sn, fl, bk, ep, tp, tl⟩, W, 1, (eP (tPl T start i) : Int), W.getD (eP (tPl T start i)) 0, false⟩ := by
  have P := Q.pre
  have hX := (hXTv T R start ⟨false, lg, key, 3, seq, i, fd, hd, tm, 0, pl, sn, fl, bk, ep, tp, tl⟩ (tPl T start i) false false false)
  show Gives Tryz.prog 55 _ _ _
  refine gives_x hX (fn := Tryz.f55) rfl rfl rfl rfl fun ρ w => ?_
  dsimp only [ruC, hoC, nxV, hlV, erV, cond_true, cond_false]
  refine sx hX [] 4000 rfl (by (simp [-List.getD_eq_getElem?_getD, -List.length_eq_zero_iff, conjP, Q, lkH, ruC, hoC, nxV, hlV, erV])) ?_
  refine sx hX [.T] 4000 rfl (by (simp [-List.getD_eq_getElem?_getD, -List.length_eq_zero_iff, conjP, addOP])) ?_
  refine sx hX [.F] 4000 rfl (by (simp [-List.getD_eq_getElem?_getD, -List.length_eq_zero_iff, conjP, addOP, hn])) ?_
  refine sx hX [.F] 4000 rfl (by (simp [-List.getD_eq_getElem?_getD, -List.length_eq_zero_iff, conjP, addOP])) ?_
  refine sx hX [.F] 4000 rfl (by (simp [-List.getD_eq_getElem?_getD, -List.length_eq_zero_iff, conjP, addOP])) ?_
  refine sx hX [.F] 4000 rfl (by (simp [-List.getD_eq_getElem?_getD, -List.length_eq_zero_iff, conjP, addOP])) ?_
  (refine ss_end hX [0, 1, 2, 3] rfl rfl trivial rfl rfl rfl rfl ?hv ?hh ?hk ?ho; (case hv => exact clS); (case hh => exact clS); (case hk => exact clS); (case ho => exact clS))
set_option maxHeartbeats 4000000 in
theorem t3cl_1 (Q : LkP T R start ⟨false, lg, key, 3, seq, i, fd, hd, tm, 0, (-1), sn, fl, bk, ep, tp, tl⟩ W st (tPl T start i) false false true)  : Stp T R start ⟨false, lg, key, 3, seq, i, fd, hd, tm, 0, (-1), sn, fl, bk, ep, tp, tl⟩ W st kd wd vl ch ⟨⟨false, lg, key, 4, seq, (i + 1), fd, hd, tm, 0, ((tPl T start i : Nat) : Int), sn, fl, bk, ep, tp, tl⟩, W, 1, (eP (tPl T start i) : Int), W.getD (eP (tPl T start i)) 0, false⟩ := by
  have P := Q.pre
  have hX := (hXTv T R start ⟨false, lg, key, 3, seq, i, fd, hd, tm, 0, (-1), sn, fl, bk, ep, tp, tl⟩ (tPl T start i) false false true)
  have hpn : ¬ ((tPl T start i : Nat) : Int) = -1 := by omega
  show Gives Tryz.prog 55 _ _ _
  refine gives_x hX (fn := Tryz.f55) rfl rfl rfl rfl fun ρ w => ?_
  dsimp only [ruC, hoC, nxV, hlV, erV, cond_true, cond_false]
  refine sx hX [] 4000 rfl (by (simp [-List.getD_eq_getElem?_getD, -List.length_eq_zero_iff, conjP, Q, lkH, ruC, hoC, nxV, hlV, erV])) ?_
  refine sx hX [.T] 4000 rfl (by (simp [-List.getD_eq_getElem?_getD, -List.length_eq_zero_iff, conjP, addOP])) ?_
  refine sx hX [.T] 4000 rfl (by (simp [-List.getD_eq_getElem?_getD, -List.length_eq_zero_iff, conjP, addOP])) ?_
  refine sx hX [.F] 4000 rfl (by (simp [-List.getD_eq_getElem?_getD, -List.length_eq_zero_iff, conjP, addOP])) ?_
  refine sx hX [.T] 4000 rfl (by (simp [-List.getD_eq_getElem?_getD, -List.length_eq_zero_iff, conjP, addOP])) ?_
  refine sx hX [.F] 4000 rfl (by (simp [-List.getD_eq_getElem?_getD, -List.length_eq_zero_iff, conjP, addOP])) ?_
  refine sx hX [.T] 4000 rfl (by (simp [-List.getD_eq_getElem?_getD, -List.length_eq_zero_iff, conjP, addOP])) ?_
  (refine ss_end hX [0, 1, 2, 3] rfl rfl trivial rfl rfl rfl rfl ?hv ?hh ?hk ?ho; (case hv => exact clS); (case hh => exact clS); (case hk => exact clS); (case ho => exact clS))
set_option maxHeartbeats 4000000 in
theorem t3cl_2 (Q : LkP T R start ⟨false, lg, key, 3, seq, i, fd, hd, tm, 0, pl, sn, fl, bk, ep, tp, tl⟩ W st (tPl T start i) false false true) (hn : ¬ pl = -1) : Stp T R start ⟨false, lg, key, 3, seq, i, fd, hd, tm, 0, pl, sn, fl, bk, ep, tp, tl⟩ W st kd wd vl ch ⟨⟨false, lg, key, 4, seq, (i + 1), fd, hd, tm, 0, pl, sn, fl, bk, ep, tp, tl⟩, W, 1, (eP (tPl T start i) : Int), W.getD (eP (tPl T start i)) 0, false⟩ := by
  have P := Q.pre
  have hX := (hXTv T R start ⟨false, lg, key, 3, seq, i, fd, hd, tm, 0, pl, sn, fl, bk, ep, tp, tl⟩ (tPl T start i) false false true)
  show Gives Tryz.prog 55 _ _ _
  refine gives_x hX (fn := Tryz.f55) rfl rfl rfl rfl fun ρ w => ?_
  dsimp only [ruC, hoC, nxV, hlV, erV, cond_true, cond_false]
  refine sx hX [] 4000 rfl (by (simp [-List.getD_eq_getElem?_getD, -List.length_eq_zero_iff, conjP, Q, lkH, ruC, hoC, nxV, hlV, erV])) ?_
  refine sx hX [.T] 4000 rfl (by (simp [-List.getD_eq_getElem?_getD, -List.length_eq_zero_iff, conjP, addOP])) ?_
  refine sx hX [.F] 4000 rfl (by (simp [-List.getD_eq_getElem?_getD, -List.length_eq_zero_iff, conjP, addOP, hn])) ?_
  refine sx hX [.F] 4000 rfl (by (simp [-List.getD_eq_getElem?_getD, -List.length_eq_zero_iff, conjP, addOP])) ?_
  refine sx hX [.T] 4000 rfl (by (simp [-List.getD_eq_getElem?_getD, -List.length_eq_zero_iff, conjP, addOP])) ?_
  refine sx hX [.F] 4000 rfl (by (simp [-List.getD_eq_getElem?_getD, -List.length_eq_zero_iff, conjP, addOP, hn])) ?_
  refine sx hX [.T] 4000 rfl (by (simp [-List.getD_eq_getElem?_getD, -List.length_eq_zero_iff, conjP, addOP])) ?_
  (refine ss_end hX [0, 1, 2, 3] rfl rfl trivial rfl rfl rfl rfl ?hv ?hh ?hk ?ho; (case hv => exact clS); (case hh => exact clS); (case hk => exact clS); (case ho => exact clS))
set_option maxHeartbeats 4000000 in
theorem t3rn_ff (Q : LkP T R start ⟨true, lg, key, 3, seq, i, fd, hd, tm, 0, pl, sn, fl, bk, ep, tp, tl⟩ W st (tPl T start i) false false false)  : Stp T R start ⟨true, lg, key, 3, seq, i, fd, hd, tm, 0, pl, sn, fl, bk, ep, tp, tl⟩ W st kd wd vl ch ⟨⟨true, lg, key, 3, seq, (i + 1), fd, hd, tm, 0, pl, sn, fl, bk, ep, tp, tl⟩, W, 1, (eP (tPl T start i) : Int), W.getD (eP (tPl T start i)) 0, false⟩ := by
  have P := Q.pre
  have hX := (hXTv T R start ⟨true, lg, key, 3, seq, i, fd, hd, tm, 0, pl, sn, fl, bk, ep, tp, tl⟩ (tPl T start i) false false false)
  show Gives Tryz.prog 56 _ _ _
  refine gives_x hX (fn := Tryz.f56) rfl rfl rfl rfl fun ρ w => ?_
  dsimp only [ruC, hoC, nxV, hlV, erV, cond_true, cond_false]
  refine sx hX [] 4000 rfl (by (simp [-List.getD_eq_getElem?_getD, -List.length_eq_zero_iff, conjP, Q, lkH, ruC, hoC, nxV, hlV, erV])) ?_
  refine sx hX [.F] 4000 rfl (by (simp [-List.getD_eq_getElem?_getD, -List.length_eq_zero_iff, conjP, addOP])) ?_
  refine sx hX [.F] 4000 rfl (by (simp [-List.getD_eq_getElem?_getD, -List.length_eq_zero_iff, conjP, addOP])) ?_
  (refine ss_end hX [0, 1, 2, 3] rfl rfl trivial rfl rfl rfl rfl ?hv ?hh ?hk ?ho; (case hv => exact clS); (case hh => exact clS); (case hk => exact clS); (case ho => exact clS))
set_option maxHeartbeats 4000000 in
theorem t3rn_ft (Q : LkP T R start ⟨true, lg, key, 3, seq, i, fd, hd, tm, 0, pl, sn, fl, bk, ep, tp, tl⟩ W st (tPl T start i) false false true)  : Stp T R start ⟨true, lg, key, 3, seq, i, fd, hd, tm, 0, pl, sn, fl, bk, ep, tp, tl⟩ W st kd wd vl ch ⟨⟨true, lg, key, 7, seq, (i + 1), fd, hd, (st + 1), 12, pl, sn, fl, bk, ep, tp, tl⟩, W, 1, (eP (tPl T start i) : Int), W.getD (eP (tPl T start i)) 0, false⟩ := by
  have P := Q.pre
  have hX := (hXTv T R start ⟨true, lg, key, 3, seq, i, fd, hd, tm, 0, pl, sn, fl, bk, ep, tp, tl⟩ (tPl T start i) false false true)
  show Gives Tryz.prog 56 _ _ _
  refine gives_x hX (fn := Tryz.f56) rfl rfl rfl rfl fun ρ w => ?_
  dsimp only [ruC, hoC, nxV, hlV, erV, cond_true, cond_false]
  refine sx hX [] 4000 rfl (by (simp [-List.getD_eq_getElem?_getD, -List.length_eq_zero_iff, conjP, Q, lkH, ruC, hoC, nxV, hlV, erV])) ?_
  refine sx hX [.F] 4000 rfl (by (simp [-List.getD_eq_getElem?_getD, -List.length_eq_zero_iff, conjP, addOP])) ?_
  refine sx hX [.T] 4000 rfl (by (simp [-List.getD_eq_getElem?_getD, -List.length_eq_zero_iff, conjP, getH, HE.so, ruC])) ?_
  refine sx hX [.F] 4000 rfl (by (simp [-List.getD_eq_getElem?_getD, -List.length_eq_zero_iff, conjP, addOP])) ?_
  (refine ss_end hX [0, 1, 2, 3] rfl rfl trivial rfl rfl rfl rfl ?hv ?hh ?hk ?ho; (case hv => exact clS); (case hh => exact clS); (case hk => exact clS); (case ho => exact clS))
set_option maxHeartbeats 4000000 in
theorem t3rf_f (Q : LkP T R start ⟨true, lg, key, 3, seq, i, fd, hd, tm, 0, pl, sn, fl, bk, ep, tp, tl⟩ W st (tPl T start i) true true false)  : Stp T R start ⟨true, lg, key, 3, seq, i, fd, hd, tm, 0, pl, sn, fl, bk, ep, tp, tl⟩ W st kd wd vl ch ⟨⟨true, lg, key, 4, seq, (i + 1), fd, hd, tm, 0, ((tPl T start i : Nat) : Int), sn, fl, bk, ep, tp, tl⟩, W, 1, (eP (tPl T start i) : Int), W.getD (eP (tPl T start i)) 0, false⟩ := by
  have P := Q.pre
  have hX := (hXTv T R start ⟨true, lg, key, 3, seq, i, fd, hd, tm, 0, pl, sn, fl, bk, ep, tp, tl⟩ (tPl T start i) true true false)
  show Gives Tryz.prog 56 _ _ _
  refine gives_x hX (fn := Tryz.f56) rfl rfl rfl rfl fun ρ w => ?_
  dsimp only [ruC, hoC, nxV, hlV, erV, cond_true, cond_false]
  refine sx hX [] 4000 rfl (by (simp [-List.getD_eq_getElem?_getD, -List.length_eq_zero_iff, conjP, Q, lkH, ruC, hoC, nxV, hlV, erV])) ?_
  refine sx hX [.T] 4000 rfl (by (simp [-List.getD_eq_getElem?_getD, -List.length_eq_zero_iff, conjP, addOP])) ?_
  (refine ss_end hX [0, 1, 2, 3] rfl rfl trivial rfl rfl rfl rfl ?hv ?hh ?hk ?ho; (case hv => exact clS); (case hh => exact clS); (case hk => exact clS); (case ho => exact clS))
set_option maxHeartbeats 4000000 in
theorem t3rn_tf (Q : LkP T R start ⟨true, lg, key, 3, seq, i, fd, hd, tm, 0, pl, sn, fl, bk, ep, tp, tl⟩ W st (tPl T start i) false true false)  : Stp T R start ⟨true, lg, key, 3, seq, i, fd, hd, tm, 0, pl, sn, fl, bk, ep, tp, tl⟩ W st kd wd vl ch ⟨⟨true, lg, key, 3, seq, (i + 1), fd, hd, tm, 0, pl, sn, fl, bk, ep, tp, tl⟩, W, 1, (eP (tPl T start i) : Int), W.getD (eP (tPl T start i)) 0, false⟩ := by
  have P := Q.pre
  have hX := (hXTv T R start ⟨true, lg, key, 3, seq, i, fd, hd, tm, 0, pl, sn, fl, bk, ep, tp, tl⟩ (tPl T start i) false true false)
  show Gives Tryz.prog 56 _ _ _
  refine gives_x hX (fn := Tryz.f56) rfl rfl rfl rfl fun ρ w => ?_
  dsimp only [ruC, hoC, nxV, hlV, erV, cond_true, cond_false]
  refine sx hX [] 4000 rfl (by (simp [-List.getD_eq_getElem?_getD, -List.length_eq_zero_iff, conjP, Q, lkH, ruC, hoC, nxV, hlV, erV])) ?_
  refine sx hX [.F] 4000 rfl (by (simp [-List.getD_eq_getElem?_getD, -List.length_eq_zero_iff, conjP, addOP])) ?_
  refine sx hX [.F] 4000 rfl (by (simp [-List.getD_eq_getElem?_getD, -List.length_eq_zero_iff, conjP, addOP])) ?_
  (refine ss_end hX [0, 1, 2, 3] rfl rfl trivial rfl rfl rfl rfl ?hv ?hh ?hk ?ho; (case hv => exact clS); (case hh => exact clS); (case hk => exact clS); (case ho => exact clS))
set_option maxHeartbeats 4000000 in
theorem t3rf_t (Q : LkP T R start ⟨true, lg, key, 3, seq, i, fd, hd, tm, 0, pl, sn, fl, bk, ep, tp, tl⟩ W st (tPl T start i) true true true)  : Stp T R start ⟨true, lg, key, 3, seq, i, fd, hd, tm, 0, pl, sn, fl, bk, ep, tp, tl⟩ W st kd wd vl ch ⟨⟨true, lg, key, 4, seq, (i + 1), fd, hd, tm, 0, ((tPl T start i : Nat) : Int), sn, fl, bk, ep, tp, tl⟩, W, 1, (eP (tPl T start i) : Int), W.getD (eP (tPl T start i)) 0, false⟩ := by
  have P := Q.pre
  have hX := (hXTv T R start ⟨true, lg, key, 3, seq, i, fd, hd, tm, 0, pl, sn, fl, bk, ep, tp, tl⟩ (tPl T start i) true true true)
  show Gives Tryz.prog 56 _ _ _
  refine gives_x hX (fn := Tryz.f56) rfl rfl rfl rfl fun ρ w => ?_
  dsimp only [ruC, hoC, nxV, hlV, erV, cond_true, cond_false]
  refine sx hX [] 4000 rfl (by (simp [-List.getD_eq_getElem?_getD, -List.length_eq_zero_iff, conjP, Q, lkH, ruC, hoC, nxV, hlV, erV])) ?_
  refine sx hX [.T] 4000 rfl (by (simp [-List.getD_eq_getElem?_getD, -List.length_eq_zero_iff, conjP, addOP])) ?_
  (refine ss_end hX [0, 1, 2, 3] rfl rfl trivial rfl rfl rfl rfl ?hv ?hh ?hk ?ho; (case hv => exact clS); (case hh => exact clS); (case hk => exact clS); (case ho => exact clS))
set_option maxHeartbeats 4000000 in
theorem t3rn_tt (Q : LkP T R start ⟨true, lg, key, 3, seq, i, fd, hd, tm, 0, pl, sn, fl, bk, ep, tp, tl⟩ W st (tPl T start i) false true true)  : Stp T R start ⟨true, lg, key, 3, seq, i, fd, hd, tm, 0, pl, sn, fl, bk, ep, tp, tl⟩ W st kd wd vl ch ⟨⟨true, lg, key, 7, seq, (i + 1), fd, hd, (st + 1), 12, pl, sn, fl, bk, ep, tp, tl⟩, W, 1, (eP (tPl T start i) : Int), W.getD (eP (tPl T start i)) 0, false⟩ := by
  have P := Q.pre
  have hX := (hXTv T R start ⟨true, lg, key, 3, seq, i, fd, hd, tm, 0, pl, sn, fl, bk, ep, tp, tl⟩ (tPl T start i) false true true)
  show Gives Tryz.prog 56 _ _ _
  refine gives_x hX (fn := Tryz.f56) rfl rfl rfl rfl fun ρ w => ?_
  dsimp only [ruC, hoC, nxV, hlV, erV, cond_true, cond_false]
  refine sx hX [] 4000 rfl (by (simp [-List.getD_eq_getElem?_getD, -List.length_eq_zero_iff, conjP, Q, lkH, ruC, hoC, nxV, hlV, erV])) ?_
  refine sx hX [.F] 4000 rfl (by (simp [-List.getD_eq_getElem?_getD, -List.length_eq_zero_iff, conjP, addOP])) ?_
  refine sx hX [.T] 4000 rfl (by (simp [-List.getD_eq_getElem?_getD, -List.length_eq_zero_iff, conjP, getH, HE.so, ruC])) ?_
  refine sx hX [.F] 4000 rfl (by (simp [-List.getD_eq_getElem?_getD, -List.length_eq_zero_iff, conjP, addOP])) ?_
  (refine ss_end hX [0, 1, 2, 3] rfl rfl trivial rfl rfl rfl rfl ?hv ?hh ?hk ?ho; (case hv => exact clS); (case hh => exact clS); (case hk => exact clS); (case ho => exact clS))
end
section
variable {T : Nat} {R : Int} {start : Nat} {s : TS} {W : List Int} {st kd wd vl : Int} {ch : Bool}
/-- A step, told by the law's function. -/
theorem step_fn (P : TPre T R start s W st) : Stp T R start s W st kd wd vl ch (tStep T R start s W st) := by
  obtain ⟨rm, lg, key, ph, seq, i, fd, hd, tm, er, pl, sn, fl, bk, ep, tp, tl⟩ := s
  have hp : ph = 1 ∨ ph = 2 ∨ ph = 3 ∨ ph = 4 ∨ ph = 5 ∨ ph = 6 ∨ ph = 7 := by have h1 : 1 ≤ ph := P.p1; have h2 : ph ≤ 7 := P.p7; omega
  have e0 : ph ≤ 6 → er = 0 := P.e0
  rcases hp with rfl | rfl | rfl | rfl | rfl | rfl | rfl
  · obtain rfl := e0 (by omega)
    unfold tStep tFail
    dsimp only
    rw [if_pos rfl]
    by_cases g : W.getD 2 0 % 2 = 1
    · rw [if_pos g]
      by_cases g2 : fd + 1 = R
      · rw [if_pos g2]; cases rm <;> first | exact t1cl P g g2 | exact t1rl P g g2
      · rw [if_neg g2]; cases rm <;> first | exact t1cf P g g2 | exact t1rf P g g2
    · rw [if_neg g]; cases rm <;> first | exact t1ce P g | exact t1re P g
  · obtain rfl := e0 (by omega)
    unfold tStep tFail
    dsimp only
    rw [if_neg (by decide), if_pos rfl]
    by_cases g : W.getD 2 0 = seq
    · rw [if_pos g]; cases rm <;> first | exact t2ch P g | exact t2rh P g
    · rw [if_neg g]
      by_cases g2 : fd + 1 = R
      · rw [if_pos g2]; cases rm <;> first | exact t2cl P g g2 | exact t2rl P g g2
      · rw [if_neg g2]; cases rm <;> first | exact t2cf P g g2 | exact t2rf P g g2
  · obtain rfl := e0 (by omega)
    have Q : ∀ bf bk' bl, bf = (isK (W.getD (eP (tPl T start i)) 0) && decide (W.getD (eP (tPl T start i)) 0 / 4 = key)) → bk' = isK (W.getD (eP (tPl T start i)) 0) → bl = (decide (W.getD (eP (tPl T start i)) 0 = 0) || decide (i + 1 = T)) →
      LkP T R start ⟨rm, lg, key, 3, seq, i, fd, hd, tm, 0, pl, sn, fl, bk, ep, tp, tl⟩ W st (tPl T start i) bf bk' bl := fun _ _ _ a b c => ⟨P, rfl, rfl, a, b, c⟩
    unfold tStep
    dsimp only
    rw [if_neg (by decide), if_neg (by decide), if_pos rfl]
    rcases hl : (decide (W.getD (eP (tPl T start i)) 0 = 0) || decide (i + 1 = T)) with _ | _ <;> rcases hf : (isK (W.getD (eP (tPl T start i)) 0) && decide (W.getD (eP (tPl T start i)) 0 / 4 = key)) with _ | _ <;> rcases hk : isK (W.getD (eP (tPl T start i)) 0) with _ | _

    · cases rm
      · by_cases hn : pl = -1
        · subst hn; exact t3cg_1 (Q false false false hf.symm hk.symm hl.symm)
        · simp only [hn, and_false, if_false, Bool.false_eq_true]; exact t3cg_2 (Q false false false hf.symm hk.symm hl.symm) hn
      · exact t3rn_ff (Q false false false hf.symm hk.symm hl.symm)
    · cases rm
      · exact t3ck_n (Q false true false hf.symm hk.symm hl.symm)
      · exact t3rn_tf (Q false true false hf.symm hk.symm hl.symm)
    · rw [hk] at hf; cases hf
    · cases rm
      · exact t3cff (Q true true false hf.symm hk.symm hl.symm)
      · exact t3rf_f (Q true true false hf.symm hk.symm hl.symm)
    · cases rm
      · by_cases hn : pl = -1
        · subst hn; exact t3cl_1 (Q false false true hf.symm hk.symm hl.symm)
        · simp only [hn, and_false, if_false, if_true, Bool.false_eq_true]; exact t3cl_2 (Q false false true hf.symm hk.symm hl.symm) hn
      · exact t3rn_ft (Q false false true hf.symm hk.symm hl.symm)
    · cases rm
      · by_cases hn : pl = -1
        · subst hn; exact t3ck_1 (Q false true true hf.symm hk.symm hl.symm)
        · simp only [hn, if_false, and_false, if_true, Bool.false_eq_true]; exact t3ck_2 (Q false true true hf.symm hk.symm hl.symm) hn
      · exact t3rn_tt (Q false true true hf.symm hk.symm hl.symm)
    · rw [hk] at hf; cases hf
    · cases rm
      · exact t3cft (Q true true true hf.symm hk.symm hl.symm)
      · exact t3rf_t (Q true true true hf.symm hk.symm hl.symm)
  · obtain rfl := e0 (by omega)
    unfold tStep tMore
    dsimp only
    rw [if_neg (by decide), if_neg (by decide), if_neg (by decide), if_pos rfl]
    cases rm
    · exact t4c P
    · rcases gb : buW (W.getD (cP T pl.toNat) 0) with _ | _
      · exact t4rn P gb
      · by_cases g2 : fl + 1 = R
        · simp only [Bool.true_and, if_true, if_pos g2]; exact t4rl P gb g2
        · simp only [Bool.true_and, if_true, if_neg g2]; exact t4rf P gb g2
  · obtain rfl := e0 (by omega)
    unfold tStep tMore
    dsimp only
    rw [if_neg (by decide), if_neg (by decide), if_neg (by decide), if_neg (by decide), if_pos rfl]
    cases rm
    · exact t5c P
    · by_cases gs : W.getD (cP T pl.toNat) 0 = sn
      · rw [if_pos rfl, if_pos gs]; exact t5rh P gs
      · rw [if_pos rfl, if_neg gs]
        by_cases g2 : fl + 1 = R
        · rw [if_pos g2]; exact t5rl P gs g2
        · rw [if_neg g2]; exact t5rf P gs g2
  · obtain rfl := e0 (by omega)
    unfold tStep
    dsimp only
    rw [if_neg (by decide), if_neg (by decide), if_neg (by decide), if_neg (by decide), if_neg (by decide), if_pos rfl]
    cases rm <;> first | exact t6c P | exact t6r P
  · unfold tStep
    dsimp only
    rw [if_neg (by decide), if_neg (by decide), if_neg (by decide), if_neg (by decide), if_neg (by decide), if_neg (by decide), if_pos rfl]
    cases rm <;> first | exact t7c P | exact t7r P
end
end Go.Proofs.YtkkddjchkkaagaaGreatDoor
