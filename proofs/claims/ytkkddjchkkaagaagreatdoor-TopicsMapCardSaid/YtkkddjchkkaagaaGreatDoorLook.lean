/- The look at an entry; the steps that look; all steps, told by the law's function. -/
import Derived.Test.YtkkddjchkkaagaaGreatDoorSteps
import Derived.Test.YtkkddjchkkaagaaGreatDoorHyc
namespace Go.Proofs.YtkkddjchkkaagaaGreatDoor
open Go Go.Hx
set_option maxRecDepth 8000
/-- What a look is asked of, and leaves. -/
def lkH (T : Nat) (R : Int) (s : TS) (W : List Int) (st kd wd vl : Int) (ch : Bool) : List HE := [.obj (ruC 1 s), .obj (hoC (T : Int) R 0 1 s), AOx 3 W st kd wd vl ch, WO W]
structure LkP (T : Nat) (R : Int) (start : Nat) (s : TS) (W : List Int) (st : Int) (p : Nat) (bf bk bl : Bool) : Prop where
  pre : TPre T R start s W st
  h3 : s.ph = 3
  hp : p = tPl T start s.i
  ef : bf = (isK (W.getD (eP p) 0) && decide (W.getD (eP p) 0 / 4 = s.key))
  ek : bk = isK (W.getD (eP p) 0)
  el : bl = (decide (W.getD (eP p) 0 = 0) || decide (s.i + 1 = T))
section
variable {T : Nat} {R : Int} {start : Nat} {W : List Int} {st kd wd vl : Int} {ch : Bool}
variable {lg : Bool} {key seq : Int} {i : Nat} {fd : Int} {hd : Bool} {tm pl sn fl bk ep tp : Int} {tl : Bool}

theorem clV {P : Prop} (h : P := by repeat' (first | exact rfl | exact trivial | exact sim_refl _ | refine And.intro ?_ ?_)) : P := h
set_option maxHeartbeats 8000000 in
theorem lookc_fn {p : Nat} {bf bkk bl : Bool} (Q : LkP T R start ⟨false, lg, key, 3, seq, i, fd, hd, tm, 0, pl, sn, fl, bk, ep, tp, tl⟩ W st p bf bkk bl) : Gives Tryz.prog 158 [.ptr 1 0, .ptr 2 0] (lkH T R ⟨false, lg, key, 3, seq, i, fd, hd, tm, 0, pl, sn, fl, bk, ep, tp, tl⟩ W st kd wd vl ch)
    (Is (.tup [.int .i64 (p : Int), .bool bf, .bool (!bkk), .bool bl]) (lkH T R ⟨false, lg, key, 3, seq, (i + 1), fd, hd, tm, 0, pl, sn, fl, bk, ep, tp, tl⟩ W (st + 1) 1 (eP p : Int) (W.getD (eP p) 0) false)) := by
  obtain ⟨P, _, hp, ef, ek, el⟩ := Q
  dsimp only at hp ef
  have t1 := P.t1
  have t4 := P.t4
  have r1 := P.r1
  have r8 := P.r8
  have hst : startV (T : Int) 4 1 4 4 1 6 0 R key = (start : Int) := P.hst
  have hs := P.hs
  have hl := P.hl
  have s0 := P.s0
  have s1 := P.s1
  have hi : i < T := P.it (by show 3 ≤ 3; omega)
  have hpl := pl_at hs hi t4
  rw [← hp] at hpl
  have hpT : p < T := by rw [hp]; exact tPl_lt t1 i
  have hr := right_TR t1 t4 r1 r8
  have en := ent_at (R := R) hpT
  have e9 := eP_lt' hl hpT
  have c0 := (P.hw (eP p)).1
  have c1 := (P.hw (eP p)).2
  have ewi : IntKind.i64.wrap ((i : Int) + 1) = ((i + 1 : Nat) : Int) := by rw [wi64 (by omega) (by omega)]; omega
  have tz : ¬ (T : Int) = 0 := by omega
  have hX := hXTs
  refine gives_x hX (fn := Tryz.f158) rfl rfl rfl rfl fun ρ w => ?_
  dsimp only [lkH, ruC, hoC, nxV, hlV, erV, cond_true, cond_false]
  subst ek
  rcases hk : isK (W.getD (eP p) 0) with _ | _
  · have ef' : bf = false := by rw [ef, hk]; rfl
    subst ef'
    by_cases hz : W.getD (eP p) 0 = 0
    · have el' : bl = true := by rw [el, decide_eq_true hz]; rfl
      subst el'
      refine sxb hX [.r 5] [] 4000 rfl (by (simp [-List.getD_eq_getElem?_getD, -List.length_eq_zero_iff, conjP, getH, HE.so, hr, hst, hpl, en, e9, c0, c1, s0, Int.toNat_natCast] <;> (first | omega | ((repeat' (refine And.intro ?_ ?_)) <;> (first | omega | exact decide_eq_false (by omega) | exact decide_eq_true (by omega)))))) ?_
      (simp only [hst, hpl, en, Int.toNat_natCast, hk]; refine ss_drawS hX 0 (.int .i64 (p : Int)) [.F, .F, .T] 400 ⟨_, _, _, rfl, rfl, rfl, rfl, rfl⟩ rfl (by first | exact trivial | (simp [-List.getD_eq_getElem?_getD, -List.length_eq_zero_iff, conjP, hz])) ?_; refine sx hX [] 400 rfl (by first | exact trivial | (simp [-List.getD_eq_getElem?_getD, -List.length_eq_zero_iff, conjP, addOP, getH, HE.so, hz])) ?_; refine ss_end hX [0, 1, 2, 3] rfl rfl trivial rfl rfl rfl rfl ?hv ?hh ?hk ?ho; (case hv => exact clV); (case hh => (try simp only [ewi]); (repeat' (first | exact rfl | exact trivial | exact sim_refl _ | refine And.intro ?_ ?_)); done); (case hk => (repeat' (first | exact rfl | exact trivial | exact sim_refl _ | refine And.intro ?_ ?_)); done); (case ho => (repeat' (first | exact rfl | exact trivial | exact sim_refl _ | refine And.intro ?_ ?_)); done))
    · by_cases ht : i + 1 = T
      · have el' : bl = true := by rw [el, decide_eq_true (show i + 1 = T from ht)]; simp
        subst el'
        have ht' : IntKind.i64.wrap ((i : Int) + 1) = (T : Int) := by rw [ewi]; omega
        refine sxb hX [.r 5] [] 4000 rfl (by (simp [-List.getD_eq_getElem?_getD, -List.length_eq_zero_iff, conjP, getH, HE.so, hr, hst, hpl, en, e9, c0, c1, s0, Int.toNat_natCast] <;> (first | omega | ((repeat' (refine And.intro ?_ ?_)) <;> (first | omega | exact decide_eq_false (by omega) | exact decide_eq_true (by omega)))))) ?_
        (simp only [hst, hpl, en, Int.toNat_natCast, hk]; refine ss_drawS hX 0 (.int .i64 (p : Int)) [.F, .F, .F, .T] 400 ⟨_, _, _, rfl, rfl, rfl, rfl, rfl⟩ rfl (by first | exact trivial | (simp [-List.getD_eq_getElem?_getD, -List.length_eq_zero_iff, conjP, hz, ht'])) ?_; refine sx hX [] 400 rfl (by first | exact trivial | (simp [-List.getD_eq_getElem?_getD, -List.length_eq_zero_iff, conjP, addOP, getH, HE.so, hz, ht'])) ?_; refine ss_end hX [0, 1, 2, 3] rfl rfl trivial rfl rfl rfl rfl ?hv ?hh ?hk ?ho; (case hv => exact clV); (case hh => (try simp only [ewi]); (repeat' (first | exact rfl | exact trivial | exact sim_refl _ | refine And.intro ?_ ?_)); done); (case hk => (repeat' (first | exact rfl | exact trivial | exact sim_refl _ | refine And.intro ?_ ?_)); done); (case ho => (repeat' (first | exact rfl | exact trivial | exact sim_refl _ | refine And.intro ?_ ?_)); done))
      · have el' : bl = false := by rw [el, decide_eq_false hz, decide_eq_false (show ¬ i + 1 = T from ht)]; rfl
        subst el'
        have ht' : ¬ IntKind.i64.wrap ((i : Int) + 1) = (T : Int) := by rw [ewi]; omega
        refine sxb hX [.r 5] [] 4000 rfl (by (simp [-List.getD_eq_getElem?_getD, -List.length_eq_zero_iff, conjP, getH, HE.so, hr, hst, hpl, en, e9, c0, c1, s0, Int.toNat_natCast] <;> (first | omega | ((repeat' (refine And.intro ?_ ?_)) <;> (first | omega | exact decide_eq_false (by omega) | exact decide_eq_true (by omega)))))) ?_
        (simp only [hst, hpl, en, Int.toNat_natCast, hk]; refine ss_drawS hX 0 (.int .i64 (p : Int)) [.F, .F, .F, .F] 400 ⟨_, _, _, rfl, rfl, rfl, rfl, rfl⟩ rfl (by first | exact trivial | (simp [-List.getD_eq_getElem?_getD, -List.length_eq_zero_iff, conjP, hz, ht'])) ?_; refine sx hX [] 400 rfl (by first | exact trivial | (simp [-List.getD_eq_getElem?_getD, -List.length_eq_zero_iff, conjP, addOP, getH, HE.so, hz, ht'])) ?_; refine ss_end hX [0, 1, 2, 3] rfl rfl trivial rfl rfl rfl rfl ?hv ?hh ?hk ?ho; (case hv => exact clV); (case hh => (try simp only [ewi]); (repeat' (first | exact rfl | exact trivial | exact sim_refl _ | refine And.intro ?_ ?_)); done); (case hk => (repeat' (first | exact rfl | exact trivial | exact sim_refl _ | refine And.intro ?_ ?_)); done); (case ho => (repeat' (first | exact rfl | exact trivial | exact sim_refl _ | refine And.intro ?_ ?_)); done))
  · have hz : ¬ W.getD (eP p) 0 = 0 := (isK_ne hk).1
    have ky : kyW (W.getD (eP p) 0) = W.getD (eP p) 0 / 4 := by unfold kyW; rw [if_pos hk]
    by_cases hf : W.getD (eP p) 0 / 4 = key
    · have ef' : bf = true := by rw [ef, hk, decide_eq_true hf]; rfl
      subst ef'
      have hf' : kyW (W.getD (eP p) 0) = key := by rw [ky]; exact hf
      by_cases ht : i + 1 = T
      · have el' : bl = true := by rw [el, decide_eq_true (show i + 1 = T from ht)]; simp
        subst el'
        have ht' : IntKind.i64.wrap ((i : Int) + 1) = (T : Int) := by rw [ewi]; omega
        refine sxb hX [.r 5] [] 4000 rfl (by (simp [-List.getD_eq_getElem?_getD, -List.length_eq_zero_iff, conjP, getH, HE.so, hr, hst, hpl, en, e9, c0, c1, s0, Int.toNat_natCast] <;> (first | omega | ((repeat' (refine And.intro ?_ ?_)) <;> (first | omega | exact decide_eq_false (by omega) | exact decide_eq_true (by omega)))))) ?_
        (simp only [hst, hpl, en, Int.toNat_natCast, hk]; refine ss_drawS hX 0 (.int .i64 (p : Int)) [.T, .T, .T, .F, .T] 400 ⟨_, _, _, rfl, rfl, rfl, rfl, rfl⟩ rfl (by first | exact trivial | (simp [-List.getD_eq_getElem?_getD, -List.length_eq_zero_iff, conjP, hz, ht', hf'])) ?_; refine sx hX [] 400 rfl (by first | exact trivial | (simp [-List.getD_eq_getElem?_getD, -List.length_eq_zero_iff, conjP, addOP, getH, HE.so, hz, ht', hf'])) ?_; refine ss_end hX [0, 1, 2, 3] rfl rfl trivial rfl rfl rfl rfl ?hv ?hh ?hk ?ho; (case hv => exact clV); (case hh => (try simp only [ewi]); (repeat' (first | exact rfl | exact trivial | exact sim_refl _ | refine And.intro ?_ ?_)); done); (case hk => (repeat' (first | exact rfl | exact trivial | exact sim_refl _ | refine And.intro ?_ ?_)); done); (case ho => (repeat' (first | exact rfl | exact trivial | exact sim_refl _ | refine And.intro ?_ ?_)); done))
      · have el' : bl = false := by rw [el, decide_eq_false hz, decide_eq_false (show ¬ i + 1 = T from ht)]; rfl
        subst el'
        have ht' : ¬ IntKind.i64.wrap ((i : Int) + 1) = (T : Int) := by rw [ewi]; omega
        refine sxb hX [.r 5] [] 4000 rfl (by (simp [-List.getD_eq_getElem?_getD, -List.length_eq_zero_iff, conjP, getH, HE.so, hr, hst, hpl, en, e9, c0, c1, s0, Int.toNat_natCast] <;> (first | omega | ((repeat' (refine And.intro ?_ ?_)) <;> (first | omega | exact decide_eq_false (by omega) | exact decide_eq_true (by omega)))))) ?_
        (simp only [hst, hpl, en, Int.toNat_natCast, hk]; refine ss_drawS hX 0 (.int .i64 (p : Int)) [.T, .T, .T, .F, .F] 400 ⟨_, _, _, rfl, rfl, rfl, rfl, rfl⟩ rfl (by first | exact trivial | (simp [-List.getD_eq_getElem?_getD, -List.length_eq_zero_iff, conjP, hz, ht', hf'])) ?_; refine sx hX [] 400 rfl (by first | exact trivial | (simp [-List.getD_eq_getElem?_getD, -List.length_eq_zero_iff, conjP, addOP, getH, HE.so, hz, ht', hf'])) ?_; refine ss_end hX [0, 1, 2, 3] rfl rfl trivial rfl rfl rfl rfl ?hv ?hh ?hk ?ho; (case hv => exact clV); (case hh => (try simp only [ewi]); (repeat' (first | exact rfl | exact trivial | exact sim_refl _ | refine And.intro ?_ ?_)); done); (case hk => (repeat' (first | exact rfl | exact trivial | exact sim_refl _ | refine And.intro ?_ ?_)); done); (case ho => (repeat' (first | exact rfl | exact trivial | exact sim_refl _ | refine And.intro ?_ ?_)); done))
    · have ef' : bf = false := by rw [ef, hk, decide_eq_false hf]; rfl
      subst ef'
      have hf' : ¬ kyW (W.getD (eP p) 0) = key := by rw [ky]; exact hf
      by_cases ht : i + 1 = T
      · have el' : bl = true := by rw [el, decide_eq_true (show i + 1 = T from ht)]; simp
        subst el'
        have ht' : IntKind.i64.wrap ((i : Int) + 1) = (T : Int) := by rw [ewi]; omega
        refine sxb hX [.r 5] [] 4000 rfl (by (simp [-List.getD_eq_getElem?_getD, -List.length_eq_zero_iff, conjP, getH, HE.so, hr, hst, hpl, en, e9, c0, c1, s0, Int.toNat_natCast] <;> (first | omega | ((repeat' (refine And.intro ?_ ?_)) <;> (first | omega | exact decide_eq_false (by omega) | exact decide_eq_true (by omega)))))) ?_
        (simp only [hst, hpl, en, Int.toNat_natCast, hk]; refine ss_drawS hX 0 (.int .i64 (p : Int)) [.T, .F, .T, .F, .T] 400 ⟨_, _, _, rfl, rfl, rfl, rfl, rfl⟩ rfl (by first | exact trivial | (simp [-List.getD_eq_getElem?_getD, -List.length_eq_zero_iff, conjP, hz, ht', hf'])) ?_; refine sx hX [] 400 rfl (by first | exact trivial | (simp [-List.getD_eq_getElem?_getD, -List.length_eq_zero_iff, conjP, addOP, getH, HE.so, hz, ht', hf'])) ?_; refine ss_end hX [0, 1, 2, 3] rfl rfl trivial rfl rfl rfl rfl ?hv ?hh ?hk ?ho; (case hv => exact clV); (case hh => (try simp only [ewi]); (repeat' (first | exact rfl | exact trivial | exact sim_refl _ | refine And.intro ?_ ?_)); done); (case hk => (repeat' (first | exact rfl | exact trivial | exact sim_refl _ | refine And.intro ?_ ?_)); done); (case ho => (repeat' (first | exact rfl | exact trivial | exact sim_refl _ | refine And.intro ?_ ?_)); done))
      · have el' : bl = false := by rw [el, decide_eq_false hz, decide_eq_false (show ¬ i + 1 = T from ht)]; rfl
        subst el'
        have ht' : ¬ IntKind.i64.wrap ((i : Int) + 1) = (T : Int) := by rw [ewi]; omega
        refine sxb hX [.r 5] [] 4000 rfl (by (simp [-List.getD_eq_getElem?_getD, -List.length_eq_zero_iff, conjP, getH, HE.so, hr, hst, hpl, en, e9, c0, c1, s0, Int.toNat_natCast] <;> (first | omega | ((repeat' (refine And.intro ?_ ?_)) <;> (first | omega | exact decide_eq_false (by omega) | exact decide_eq_true (by omega)))))) ?_
        (simp only [hst, hpl, en, Int.toNat_natCast, hk]; refine ss_drawS hX 0 (.int .i64 (p : Int)) [.T, .F, .T, .F, .F] 400 ⟨_, _, _, rfl, rfl, rfl, rfl, rfl⟩ rfl (by first | exact trivial | (simp [-List.getD_eq_getElem?_getD, -List.length_eq_zero_iff, conjP, hz, ht', hf'])) ?_; refine sx hX [] 400 rfl (by first | exact trivial | (simp [-List.getD_eq_getElem?_getD, -List.length_eq_zero_iff, conjP, addOP, getH, HE.so, hz, ht', hf'])) ?_; refine ss_end hX [0, 1, 2, 3] rfl rfl trivial rfl rfl rfl rfl ?hv ?hh ?hk ?ho; (case hv => exact clV); (case hh => (try simp only [ewi]); (repeat' (first | exact rfl | exact trivial | exact sim_refl _ | refine And.intro ?_ ?_)); done); (case hk => (repeat' (first | exact rfl | exact trivial | exact sim_refl _ | refine And.intro ?_ ?_)); done); (case ho => (repeat' (first | exact rfl | exact trivial | exact sim_refl _ | refine And.intro ?_ ?_)); done))
set_option maxHeartbeats 8000000 in
theorem lookr_fn {p : Nat} {bf bkk bl : Bool} (Q : LkP T R start ⟨true, lg, key, 3, seq, i, fd, hd, tm, 0, pl, sn, fl, bk, ep, tp, tl⟩ W st p bf bkk bl) : Gives Tryz.prog 158 [.ptr 1 0, .ptr 2 0] (lkH T R ⟨true, lg, key, 3, seq, i, fd, hd, tm, 0, pl, sn, fl, bk, ep, tp, tl⟩ W st kd wd vl ch)
    (Is (.tup [.int .i64 (p : Int), .bool bf, .bool (!bkk), .bool bl]) (lkH T R ⟨true, lg, key, 3, seq, (i + 1), fd, hd, tm, 0, pl, sn, fl, bk, ep, tp, tl⟩ W (st + 1) 1 (eP p : Int) (W.getD (eP p) 0) false)) := by
  obtain ⟨P, _, hp, ef, ek, el⟩ := Q
  dsimp only at hp ef
  have t1 := P.t1
  have t4 := P.t4
  have r1 := P.r1
  have r8 := P.r8
  have hst : startV (T : Int) 4 1 4 4 1 6 0 R key = (start : Int) := P.hst
  have hs := P.hs
  have hl := P.hl
  have s0 := P.s0
  have s1 := P.s1
  have hi : i < T := P.it (by show 3 ≤ 3; omega)
  have hpl := pl_at hs hi t4
  rw [← hp] at hpl
  have hpT : p < T := by rw [hp]; exact tPl_lt t1 i
  have hr := right_TR t1 t4 r1 r8
  have en := ent_at (R := R) hpT
  have e9 := eP_lt' hl hpT
  have c0 := (P.hw (eP p)).1
  have c1 := (P.hw (eP p)).2
  have ewi : IntKind.i64.wrap ((i : Int) + 1) = ((i + 1 : Nat) : Int) := by rw [wi64 (by omega) (by omega)]; omega
  have tz : ¬ (T : Int) = 0 := by omega
  have hX := hXTs
  refine gives_x hX (fn := Tryz.f158) rfl rfl rfl rfl fun ρ w => ?_
  dsimp only [lkH, ruC, hoC, nxV, hlV, erV, cond_true, cond_false]
  subst ek
  rcases hk : isK (W.getD (eP p) 0) with _ | _
  · have ef' : bf = false := by rw [ef, hk]; rfl
    subst ef'
    by_cases hz : W.getD (eP p) 0 = 0
    · have el' : bl = true := by rw [el, decide_eq_true hz]; rfl
      subst el'
      refine sxb hX [.r 5] [] 4000 rfl (by (simp [-List.getD_eq_getElem?_getD, -List.length_eq_zero_iff, conjP, getH, HE.so, hr, hst, hpl, en, e9, c0, c1, s0, Int.toNat_natCast] <;> (first | omega | ((repeat' (refine And.intro ?_ ?_)) <;> (first | omega | exact decide_eq_false (by omega) | exact decide_eq_true (by omega)))))) ?_
      (simp only [hst, hpl, en, Int.toNat_natCast, hk]; refine ss_drawS hX 0 (.int .i64 (p : Int)) [.F, .F, .T] 400 ⟨_, _, _, rfl, rfl, rfl, rfl, rfl⟩ rfl (by first | exact trivial | (simp [-List.getD_eq_getElem?_getD, -List.length_eq_zero_iff, conjP, hz])) ?_; refine sx hX [] 400 rfl (by first | exact trivial | (simp [-List.getD_eq_getElem?_getD, -List.length_eq_zero_iff, conjP, addOP, getH, HE.so, hz])) ?_; refine ss_end hX [0, 1, 2, 3] rfl rfl trivial rfl rfl rfl rfl ?hv ?hh ?hk ?ho; (case hv => exact clV); (case hh => (try simp only [ewi]); (repeat' (first | exact rfl | exact trivial | exact sim_refl _ | refine And.intro ?_ ?_)); done); (case hk => (repeat' (first | exact rfl | exact trivial | exact sim_refl _ | refine And.intro ?_ ?_)); done); (case ho => (repeat' (first | exact rfl | exact trivial | exact sim_refl _ | refine And.intro ?_ ?_)); done))
    · by_cases ht : i + 1 = T
      · have el' : bl = true := by rw [el, decide_eq_true (show i + 1 = T from ht)]; simp
        subst el'
        have ht' : IntKind.i64.wrap ((i : Int) + 1) = (T : Int) := by rw [ewi]; omega
        refine sxb hX [.r 5] [] 4000 rfl (by (simp [-List.getD_eq_getElem?_getD, -List.length_eq_zero_iff, conjP, getH, HE.so, hr, hst, hpl, en, e9, c0, c1, s0, Int.toNat_natCast] <;> (first | omega | ((repeat' (refine And.intro ?_ ?_)) <;> (first | omega | exact decide_eq_false (by omega) | exact decide_eq_true (by omega)))))) ?_
        (simp only [hst, hpl, en, Int.toNat_natCast, hk]; refine ss_drawS hX 0 (.int .i64 (p : Int)) [.F, .F, .F, .T] 400 ⟨_, _, _, rfl, rfl, rfl, rfl, rfl⟩ rfl (by first | exact trivial | (simp [-List.getD_eq_getElem?_getD, -List.length_eq_zero_iff, conjP, hz, ht'])) ?_; refine sx hX [] 400 rfl (by first | exact trivial | (simp [-List.getD_eq_getElem?_getD, -List.length_eq_zero_iff, conjP, addOP, getH, HE.so, hz, ht'])) ?_; refine ss_end hX [0, 1, 2, 3] rfl rfl trivial rfl rfl rfl rfl ?hv ?hh ?hk ?ho; (case hv => exact clV); (case hh => (try simp only [ewi]); (repeat' (first | exact rfl | exact trivial | exact sim_refl _ | refine And.intro ?_ ?_)); done); (case hk => (repeat' (first | exact rfl | exact trivial | exact sim_refl _ | refine And.intro ?_ ?_)); done); (case ho => (repeat' (first | exact rfl | exact trivial | exact sim_refl _ | refine And.intro ?_ ?_)); done))
      · have el' : bl = false := by rw [el, decide_eq_false hz, decide_eq_false (show ¬ i + 1 = T from ht)]; rfl
        subst el'
        have ht' : ¬ IntKind.i64.wrap ((i : Int) + 1) = (T : Int) := by rw [ewi]; omega
        refine sxb hX [.r 5] [] 4000 rfl (by (simp [-List.getD_eq_getElem?_getD, -List.length_eq_zero_iff, conjP, getH, HE.so, hr, hst, hpl, en, e9, c0, c1, s0, Int.toNat_natCast] <;> (first | omega | ((repeat' (refine And.intro ?_ ?_)) <;> (first | omega | exact decide_eq_false (by omega) | exact decide_eq_true (by omega)))))) ?_
        (simp only [hst, hpl, en, Int.toNat_natCast, hk]; refine ss_drawS hX 0 (.int .i64 (p : Int)) [.F, .F, .F, .F] 400 ⟨_, _, _, rfl, rfl, rfl, rfl, rfl⟩ rfl (by first | exact trivial | (simp [-List.getD_eq_getElem?_getD, -List.length_eq_zero_iff, conjP, hz, ht'])) ?_; refine sx hX [] 400 rfl (by first | exact trivial | (simp [-List.getD_eq_getElem?_getD, -List.length_eq_zero_iff, conjP, addOP, getH, HE.so, hz, ht'])) ?_; refine ss_end hX [0, 1, 2, 3] rfl rfl trivial rfl rfl rfl rfl ?hv ?hh ?hk ?ho; (case hv => exact clV); (case hh => (try simp only [ewi]); (repeat' (first | exact rfl | exact trivial | exact sim_refl _ | refine And.intro ?_ ?_)); done); (case hk => (repeat' (first | exact rfl | exact trivial | exact sim_refl _ | refine And.intro ?_ ?_)); done); (case ho => (repeat' (first | exact rfl | exact trivial | exact sim_refl _ | refine And.intro ?_ ?_)); done))
  · have hz : ¬ W.getD (eP p) 0 = 0 := (isK_ne hk).1
    have ky : kyW (W.getD (eP p) 0) = W.getD (eP p) 0 / 4 := by unfold kyW; rw [if_pos hk]
    by_cases hf : W.getD (eP p) 0 / 4 = key
    · have ef' : bf = true := by rw [ef, hk, decide_eq_true hf]; rfl
      subst ef'
      have hf' : kyW (W.getD (eP p) 0) = key := by rw [ky]; exact hf
      by_cases ht : i + 1 = T
      · have el' : bl = true := by rw [el, decide_eq_true (show i + 1 = T from ht)]; simp
        subst el'
        have ht' : IntKind.i64.wrap ((i : Int) + 1) = (T : Int) := by rw [ewi]; omega
        refine sxb hX [.r 5] [] 4000 rfl (by (simp [-List.getD_eq_getElem?_getD, -List.length_eq_zero_iff, conjP, getH, HE.so, hr, hst, hpl, en, e9, c0, c1, s0, Int.toNat_natCast] <;> (first | omega | ((repeat' (refine And.intro ?_ ?_)) <;> (first | omega | exact decide_eq_false (by omega) | exact decide_eq_true (by omega)))))) ?_
        (simp only [hst, hpl, en, Int.toNat_natCast, hk]; refine ss_drawS hX 0 (.int .i64 (p : Int)) [.T, .T, .T, .F, .T] 400 ⟨_, _, _, rfl, rfl, rfl, rfl, rfl⟩ rfl (by first | exact trivial | (simp [-List.getD_eq_getElem?_getD, -List.length_eq_zero_iff, conjP, hz, ht', hf'])) ?_; refine sx hX [] 400 rfl (by first | exact trivial | (simp [-List.getD_eq_getElem?_getD, -List.length_eq_zero_iff, conjP, addOP, getH, HE.so, hz, ht', hf'])) ?_; refine ss_end hX [0, 1, 2, 3] rfl rfl trivial rfl rfl rfl rfl ?hv ?hh ?hk ?ho; (case hv => exact clV); (case hh => (try simp only [ewi]); (repeat' (first | exact rfl | exact trivial | exact sim_refl _ | refine And.intro ?_ ?_)); done); (case hk => (repeat' (first | exact rfl | exact trivial | exact sim_refl _ | refine And.intro ?_ ?_)); done); (case ho => (repeat' (first | exact rfl | exact trivial | exact sim_refl _ | refine And.intro ?_ ?_)); done))
      · have el' : bl = false := by rw [el, decide_eq_false hz, decide_eq_false (show ¬ i + 1 = T from ht)]; rfl
        subst el'
        have ht' : ¬ IntKind.i64.wrap ((i : Int) + 1) = (T : Int) := by rw [ewi]; omega
        refine sxb hX [.r 5] [] 4000 rfl (by (simp [-List.getD_eq_getElem?_getD, -List.length_eq_zero_iff, conjP, getH, HE.so, hr, hst, hpl, en, e9, c0, c1, s0, Int.toNat_natCast] <;> (first | omega | ((repeat' (refine And.intro ?_ ?_)) <;> (first | omega | exact decide_eq_false (by omega) | exact decide_eq_true (by omega)))))) ?_
        (simp only [hst, hpl, en, Int.toNat_natCast, hk]; refine ss_drawS hX 0 (.int .i64 (p : Int)) [.T, .T, .T, .F, .F] 400 ⟨_, _, _, rfl, rfl, rfl, rfl, rfl⟩ rfl (by first | exact trivial | (simp [-List.getD_eq_getElem?_getD, -List.length_eq_zero_iff, conjP, hz, ht', hf'])) ?_; refine sx hX [] 400 rfl (by first | exact trivial | (simp [-List.getD_eq_getElem?_getD, -List.length_eq_zero_iff, conjP, addOP, getH, HE.so, hz, ht', hf'])) ?_; refine ss_end hX [0, 1, 2, 3] rfl rfl trivial rfl rfl rfl rfl ?hv ?hh ?hk ?ho; (case hv => exact clV); (case hh => (try simp only [ewi]); (repeat' (first | exact rfl | exact trivial | exact sim_refl _ | refine And.intro ?_ ?_)); done); (case hk => (repeat' (first | exact rfl | exact trivial | exact sim_refl _ | refine And.intro ?_ ?_)); done); (case ho => (repeat' (first | exact rfl | exact trivial | exact sim_refl _ | refine And.intro ?_ ?_)); done))
    · have ef' : bf = false := by rw [ef, hk, decide_eq_false hf]; rfl
      subst ef'
      have hf' : ¬ kyW (W.getD (eP p) 0) = key := by rw [ky]; exact hf
      by_cases ht : i + 1 = T
      · have el' : bl = true := by rw [el, decide_eq_true (show i + 1 = T from ht)]; simp
        subst el'
        have ht' : IntKind.i64.wrap ((i : Int) + 1) = (T : Int) := by rw [ewi]; omega
        refine sxb hX [.r 5] [] 4000 rfl (by (simp [-List.getD_eq_getElem?_getD, -List.length_eq_zero_iff, conjP, getH, HE.so, hr, hst, hpl, en, e9, c0, c1, s0, Int.toNat_natCast] <;> (first | omega | ((repeat' (refine And.intro ?_ ?_)) <;> (first | omega | exact decide_eq_false (by omega) | exact decide_eq_true (by omega)))))) ?_
        (simp only [hst, hpl, en, Int.toNat_natCast, hk]; refine ss_drawS hX 0 (.int .i64 (p : Int)) [.T, .F, .T, .F, .T] 400 ⟨_, _, _, rfl, rfl, rfl, rfl, rfl⟩ rfl (by first | exact trivial | (simp [-List.getD_eq_getElem?_getD, -List.length_eq_zero_iff, conjP, hz, ht', hf'])) ?_; refine sx hX [] 400 rfl (by first | exact trivial | (simp [-List.getD_eq_getElem?_getD, -List.length_eq_zero_iff, conjP, addOP, getH, HE.so, hz, ht', hf'])) ?_; refine ss_end hX [0, 1, 2, 3] rfl rfl trivial rfl rfl rfl rfl ?hv ?hh ?hk ?ho; (case hv => exact clV); (case hh => (try simp only [ewi]); (repeat' (first | exact rfl | exact trivial | exact sim_refl _ | refine And.intro ?_ ?_)); done); (case hk => (repeat' (first | exact rfl | exact trivial | exact sim_refl _ | refine And.intro ?_ ?_)); done); (case ho => (repeat' (first | exact rfl | exact trivial | exact sim_refl _ | refine And.intro ?_ ?_)); done))
      · have el' : bl = false := by rw [el, decide_eq_false hz, decide_eq_false (show ¬ i + 1 = T from ht)]; rfl
        subst el'
        have ht' : ¬ IntKind.i64.wrap ((i : Int) + 1) = (T : Int) := by rw [ewi]; omega
        refine sxb hX [.r 5] [] 4000 rfl (by (simp [-List.getD_eq_getElem?_getD, -List.length_eq_zero_iff, conjP, getH, HE.so, hr, hst, hpl, en, e9, c0, c1, s0, Int.toNat_natCast] <;> (first | omega | ((repeat' (refine And.intro ?_ ?_)) <;> (first | omega | exact decide_eq_false (by omega) | exact decide_eq_true (by omega)))))) ?_
        (simp only [hst, hpl, en, Int.toNat_natCast, hk]; refine ss_drawS hX 0 (.int .i64 (p : Int)) [.T, .F, .T, .F, .F] 400 ⟨_, _, _, rfl, rfl, rfl, rfl, rfl⟩ rfl (by first | exact trivial | (simp [-List.getD_eq_getElem?_getD, -List.length_eq_zero_iff, conjP, hz, ht', hf'])) ?_; refine sx hX [] 400 rfl (by first | exact trivial | (simp [-List.getD_eq_getElem?_getD, -List.length_eq_zero_iff, conjP, addOP, getH, HE.so, hz, ht', hf'])) ?_; refine ss_end hX [0, 1, 2, 3] rfl rfl trivial rfl rfl rfl rfl ?hv ?hh ?hk ?ho; (case hv => exact clV); (case hh => (try simp only [ewi]); (repeat' (first | exact rfl | exact trivial | exact sim_refl _ | refine And.intro ?_ ?_)); done); (case hk => (repeat' (first | exact rfl | exact trivial | exact sim_refl _ | refine And.intro ?_ ?_)); done); (case ho => (repeat' (first | exact rfl | exact trivial | exact sim_refl _ | refine And.intro ?_ ?_)); done))
end
end Go.Proofs.YtkkddjchkkaagaaGreatDoor
