/- SmallPlays: a client with the document's run. -/
import Derived.Test.YtmghcelohnlceaaGreatDoorDocRuns
import Derived.Test.YtmghcelohnlceaaGreatDoorWorldLaw
namespace Go.Proofs.YtmghcelohnlceaaGreatDoor
open Go Go.Hx
set_option maxRecDepth 8000
/-- A client: the program's runs, the document's, its message. -/
abbrev ycO (w r p q : SV) (id : Int) : SO := .cells [w, r, p, q, .int .u64 id] 47
def dwP (o : Option WS) (h : Nat) (v : Value) : SV := match o with | none => .raw v | some _ => .ptr h 0
def dwE (R : Int) (o : Option WS) (hl : Nat) : HE := match o with | none => .absent | some s => .obj (rwO R s.ep s.nx s.i s.fl hl s.l.length s.sn 0 s.hd 0)
def dlE (o : Option WS) : HE := match o with | none => .absent | some s => .obj (.ints .u64 s.l 39)
def drP (o : Option RS) (h : Nat) (v : Value) : SV := match o with | none => .raw v | some _ => .ptr h 0
def drE (R : Int) (o : Option RS) (hl : Nat) : HE := match o with | none => .absent | some s => .obj (rrO R s.ep (dAt s.nx) s.fl (slV s.o hl) s.sn 0 s.tm)
section
variable {σ : Nat → Nat} {H H' : List HE} {h h' i : Nat} {R : Int} {o : Option WS} {r : Option RS} {v : Value}
theorem ren_dwP : (dwP o h v).ren σ = dwP o (σ h) v := by cases o <;> rfl
theorem ren_dlE : (dlE o).ren σ = dlE o := by cases o <;> rfl
theorem ren_drP : (drP r h v).ren σ = drP r (σ h) v := by cases r <;> rfl
theorem sim_dwP (hs : σ h = h') : sim (dwP o h' v) ((dwP o h v).ren σ) := by subst hs; rw [ren_dwP]; exact sim_refl _
theorem sim_drP (hs : σ h = h') : sim (drP r h' v) ((drP r h v).ren σ) := by subst hs; rw [ren_drP]; exact sim_refl _
theorem okP_dwP (e : thereF H' h = (dwE R o i).there) : okP (thereF H') (dwP o h v) := by
  cases o <;> first | exact trivial | simpa [dwP, okP, dwE, HE.there] using e
theorem okP_drP (e : thereF H' h = (drE R r i).there) : okP (thereF H') (drP r h v) := by
  cases r <;> first | exact trivial | simpa [drP, okP, drE, HE.there] using e
theorem subE_dwE (hg : H[σ i]? = some (dwE R o h')) (hs : σ h = h') : subE σ H i (dwE R o h) := by
  subst hs
  cases o with
  | none => trivial
  | some s =>
    simp only [dwE] at hg
    simp only [dwE, subE, getH_some.2 hg, simG]
    exact simO_refl _
theorem subE_drE (hg : H[σ i]? = some (drE R r h')) (hs : σ h = h') : subE σ H i (drE R r h) := by
  subst hs
  rcases r with _ | ⟨_, _, _, _, _, o⟩
  · trivial
  · simp only [drE] at hg
    simp only [drE, subE, getH_some.2 hg, simG]
    cases o <;> exact simO_refl _
theorem okE_dwE {A : Nat → Bool} (e : A h = (dlE o).there) : okE A (dwE R o h) := by
  cases o with
  | none => trivial
  | some s =>
    have e' : A h = true := e
    simp only [dwE, rwO, okE, okPs, okP, e', and_self]
theorem okE_dlE {A : Nat → Bool} : okE A (dlE o) := by cases o <;> trivial
theorem okE_drE {A : Nat → Bool} (e : A h = (rlE r).there) : okE A (drE R r h) := by
  rcases r with _ | ⟨_, _, _, _, _, o⟩
  · trivial
  · cases o with
    | none => simp only [drE, rrO, okE, okPs, okP, slV, and_self]
    | some l =>
      have e' : A h = true := e
      simp only [drE, rrO, okE, okPs, okP, slV, e', and_self]
end
end Go.Proofs.YtmghcelohnlceaaGreatDoor

/- SmallPlays: who has its turn, and a client that goes on (contracts). -/
namespace Go.Proofs.YtmghcelohnlceaaGreatDoor
open Go Go.Hx
set_option maxRecDepth 8000
section
variable {R n st kd wd vl id0 id1 s m : Int} {ch : Bool} {W : List Int} {p0 q0 p1 q1 p q : Value} {id : Int} {s0 s1 : WS}

set_option maxHeartbeats 4000000 in
theorem yN00_fn (hb : bkB s m false false = false) : Gives Tryz.prog 11 [.ptr 0 0, .agg [.int .i64 s, .int .i64 m]] [.obj (xO R 1 2 3 n), .opq, .opq, .obj (kO 4 5 6 7), .obj (ycO .nilptr .nilptr (.raw p0) (.raw q0) id0), .obj (ycO .nilptr .nilptr (.raw p1) (.raw q1) id1), .opq, .opq] (Is (.int .i64 (a3 s)) [.obj (xO R 1 2 3 n), .opq, .opq, .obj (kO 4 5 6 7), .obj (ycO .nilptr .nilptr (.raw p0) (.raw q0) id0), .obj (ycO .nilptr .nilptr (.raw p1) (.raw q1) id1), .opq, .opq]) := by
  refine gives_x hXSg (fn := Tryz.f11) rfl rfl rfl rfl fun ρ w => ?_
  by_cases e1 : ibits .and .i64 s 4 = 0
  · refine sx hXSg [] 4000 rfl (by (simp [-List.getD_eq_getElem?_getD, -List.length_eq_zero_iff, conjP])) ?_
    refine sx hXSg [.T] 4000 rfl (by (simp [-List.getD_eq_getElem?_getD, -List.length_eq_zero_iff, conjP, addOP, e1])) ?_
    (exact ss_end hXSg [0, 1, 2, 3, 4, 5, 6, 7] rfl rfl trivial rfl rfl rfl rfl (by (repeat' (first | exact rfl | exact trivial | exact sim_refl _ | refine And.intro ?_ ?_))) (by (repeat' (first | exact rfl | exact trivial | exact sim_refl _ | refine And.intro ?_ ?_))) (by (repeat' (first | exact rfl | exact trivial | exact sim_refl _ | refine And.intro ?_ ?_))) (by (repeat' (first | exact rfl | exact trivial | exact sim_refl _ | refine And.intro ?_ ?_))))
  · by_cases e2 : ibits .and .i64 m 15 = 0
    · simp [bkB, e1, e2] at hb
    · refine sx hXSg [] 4000 rfl (by (simp [-List.getD_eq_getElem?_getD, -List.length_eq_zero_iff, conjP])) ?_
      refine sx hXSg [.F] 4000 rfl (by (simp [-List.getD_eq_getElem?_getD, -List.length_eq_zero_iff, conjP, addOP, e1])) ?_
      refine sx hXSg [.T] 4000 rfl (by (simp [-List.getD_eq_getElem?_getD, -List.length_eq_zero_iff, conjP, addOP, e2])) ?_
      (exact ss_end hXSg [0, 1, 2, 3, 4, 5, 6, 7] rfl rfl trivial rfl rfl rfl rfl (by (repeat' (first | exact rfl | exact trivial | exact sim_refl _ | refine And.intro ?_ ?_))) (by (repeat' (first | exact rfl | exact trivial | exact sim_refl _ | refine And.intro ?_ ?_))) (by (repeat' (first | exact rfl | exact trivial | exact sim_refl _ | refine And.intro ?_ ?_))) (by (repeat' (first | exact rfl | exact trivial | exact sim_refl _ | refine And.intro ?_ ?_))))

set_option maxHeartbeats 4000000 in
theorem yB00_fn (h1 : 1 ≤ R) (h2 : R ≤ 8) (hl : W.length = 21) (hs : 0 ≤ st) (hs' : st < 1000000) (hw0 : 0 ≤ W.getD 7 0) (hw1 : W.getD 7 0 < 18446744073709551616) (hb : bkB s m false false = true) :
    Gives Tryz.prog 11 [.ptr 0 0, .agg [.int .i64 s, .int .i64 m]] [.obj (xO R 1 3 5 n), AOx 2 W st kd wd vl ch, WO W, ROx 4 W st kd wd vl ch, WO W, .obj (kO 6 7 8 9), .obj (ycO .nilptr .nilptr (.raw p0) (.raw q0) id0), .obj (ycO .nilptr .nilptr (.raw p1) (.raw q1) id1), .opq, .opq] (Is (.int .i64 (-1)) [.obj (xO R 1 3 5 n), AOx 2 ((W.set 7 (goneW (W.getD 7 0))).set 7 (bornW (goneW (W.getD 7 0)))) (st + 1 + 1) 2 7 (bornW (goneW (W.getD 7 0))) true, WO ((W.set 7 (goneW (W.getD 7 0))).set 7 (bornW (goneW (W.getD 7 0)))), ROx 4 ((W.set 7 (goneW (W.getD 7 0))).set 7 (bornW (goneW (W.getD 7 0)))) (st + 1 + 1) 2 7 (bornW (goneW (W.getD 7 0))) true, WO ((W.set 7 (goneW (W.getD 7 0))).set 7 (bornW (goneW (W.getD 7 0)))), .obj (kO 6 7 8 9), .obj (ycO .nilptr .nilptr (.raw p0) (.raw q0) id0), .obj (ycO .nilptr .nilptr (.raw p1) (.raw q1) id1), .opq, .opq]) := by
  have e1 : ¬ ibits .and .i64 s 4 = 0 := fun q => by simp [bkB, q] at hb
  have e2 : ibits .and .i64 m 15 = 0 := by
    rcases Int.decEq (ibits .and .i64 m 15) 0 with q | q
    · simp [bkB, q] at hb
    · exact q
  have h7 : 7 < W.length := by omega
  have hf := fitW hw0 hw1
  have hg : fitC ((epW (W.getD 7 0) + 1) % 32768) 0 0 := ⟨by omega, by omega, by decide, by decide, by decide, by decide⟩
  have g0 : 0 ≤ (goneW (W.getD 7 0)) := (pk_r hg false false).1
  have g1 : (goneW (W.getD 7 0)) < 18446744073709551616 := (pk_r hg false false).2
  have hw2 : (((W.set 7 (goneW (W.getD 7 0))).set 7 (bornW (goneW (W.getD 7 0))))).length = 21 := by simp only [List.length_set]; exact hl
  have hw2r := hw2.symm
  have e5 : IntKind.i64.wrap (st + 1) = st + 1 := wi64 (by omega) (by omega)
  have e6 : IntKind.i64.wrap (st + 1 + 1) = st + 1 + 1 := wi64 (by omega) (by omega)
  refine gives_x hXSg (fn := Tryz.f11) rfl rfl rfl rfl fun ρ w => ?_
  refine sx hXSg [] 4000 rfl (by (simp [-List.getD_eq_getElem?_getD, -List.length_eq_zero_iff, conjP])) ?_
  refine sx hXSg [.F] 4000 rfl (by (simp [-List.getD_eq_getElem?_getD, -List.length_eq_zero_iff, conjP, addOP, e1])) ?_
  refine sx hXSg [.F] 4000 rfl (by (simp [-List.getD_eq_getElem?_getD, -List.length_eq_zero_iff, conjP, getH, HE.so, h1, h2, hl, hs, hw0, hw1, e2] <;> (first | omega | ((repeat' (refine And.intro ?_ ?_)) <;> (first | omega | exact decide_eq_false (by omega) | exact decide_eq_true (by omega)))))) ?_
  refine sx hXSg [.T, .T] 4000 rfl (by (simp [-List.getD_eq_getElem?_getD, -List.length_eq_zero_iff, conjP, getH, HE.so, h1, h2, hl, hw0, hw1, g0, g1] <;> (first | omega | ((repeat' (refine And.intro ?_ ?_)) <;> (first | omega | exact decide_eq_false (by omega) | exact decide_eq_true (by omega)))))) ?_
  refine sx hXSg [.T, .T] 4000 rfl (by (simp [-List.getD_eq_getElem?_getD, -List.length_eq_zero_iff, conjP, getH, HE.so, h1, h2, hl])) ?_
  (refine ss_end hXSg [0, 1, 2, 3, 4, 5, 6, 7, 8, 9] rfl rfl trivial rfl rfl rfl rfl (by (repeat' (first | exact rfl | exact trivial | exact sim_refl _ | refine And.intro ?_ ?_))) ?hh (by (repeat' (first | exact rfl | exact trivial | exact sim_refl _ | refine And.intro ?_ ?_))) (by (repeat' (first | exact rfl | exact trivial | exact sim_refl _ | refine And.intro ?_ ?_))); (case hh => simp only [e5, e6, hl]; (repeat' (first | exact rfl | exact trivial | exact sim_refl _ | assumption | (simp; done) | (simp only [mulS_eq]; simp; done) | refine And.intro ?_ ?_)); done))

set_option maxHeartbeats 4000000 in
theorem yN01_fn (hb : bkB s m false s1.hd = false) : Gives Tryz.prog 11 [.ptr 0 0, .agg [.int .i64 s, .int .i64 m]] [.obj (xO R 1 2 3 n), .opq, .opq, .obj (kO 4 5 6 7), .obj (ycO .nilptr .nilptr (.raw p0) (.raw q0) id0), .obj (ycO (.ptr 8 0) .nilptr (.ptr 10 0) (.raw q1) id1), .opq, .opq, .obj (wrO R s1.ep s1.nx s1.sn s1.fl 0 s1.tm .niliface 9 s1.l.length s1.i s1.hd), .opq, .opq] (Is (.int .i64 (a3 s)) [.obj (xO R 1 2 3 n), .opq, .opq, .obj (kO 4 5 6 7), .obj (ycO .nilptr .nilptr (.raw p0) (.raw q0) id0), .obj (ycO (.ptr 8 0) .nilptr (.ptr 10 0) (.raw q1) id1), .opq, .opq, .obj (wrO R s1.ep s1.nx s1.sn s1.fl 0 s1.tm .niliface 9 s1.l.length s1.i s1.hd), .opq, .opq]) := by
  refine gives_x hXSg (fn := Tryz.f11) rfl rfl rfl rfl fun ρ w => ?_
  by_cases e1 : ibits .and .i64 s 4 = 0
  · refine sx hXSg [] 4000 rfl (by (simp [-List.getD_eq_getElem?_getD, -List.length_eq_zero_iff, conjP])) ?_
    refine sx hXSg [.T] 4000 rfl (by (simp [-List.getD_eq_getElem?_getD, -List.length_eq_zero_iff, conjP, addOP, e1])) ?_
    (exact ss_end hXSg [0, 1, 2, 3, 4, 5, 6, 7, 8, 9, 10] rfl rfl trivial rfl rfl rfl rfl (by (repeat' (first | exact rfl | exact trivial | exact sim_refl _ | refine And.intro ?_ ?_))) (by (repeat' (first | exact rfl | exact trivial | exact sim_refl _ | refine And.intro ?_ ?_))) (by (repeat' (first | exact rfl | exact trivial | exact sim_refl _ | refine And.intro ?_ ?_))) (by (repeat' (first | exact rfl | exact trivial | exact sim_refl _ | refine And.intro ?_ ?_))))
  · by_cases e2 : ibits .and .i64 m 15 = 0
    · rcases e3 : s1.hd with _ | _
      · simp [bkB, e1, e2, e3] at hb
      · refine sx hXSg [] 4000 rfl (by (simp [-List.getD_eq_getElem?_getD, -List.length_eq_zero_iff, conjP])) ?_
        refine sx hXSg [.F] 4000 rfl (by (simp [-List.getD_eq_getElem?_getD, -List.length_eq_zero_iff, conjP, addOP, e1])) ?_
        refine sx hXSg [.F] 4000 rfl (by (simp [-List.getD_eq_getElem?_getD, -List.length_eq_zero_iff, conjP, e2])) ?_
        refine sx hXSg [.T] 4000 rfl (by (simp [-List.getD_eq_getElem?_getD, -List.length_eq_zero_iff, conjP, addOP])) ?_
        (exact ss_end hXSg [0, 1, 2, 3, 4, 5, 6, 7, 8, 9, 10] rfl rfl trivial rfl rfl rfl rfl (by (repeat' (first | exact rfl | exact trivial | exact sim_refl _ | refine And.intro ?_ ?_))) (by (repeat' (first | exact rfl | exact trivial | exact sim_refl _ | refine And.intro ?_ ?_))) (by (repeat' (first | exact rfl | exact trivial | exact sim_refl _ | refine And.intro ?_ ?_))) (by (repeat' (first | exact rfl | exact trivial | exact sim_refl _ | refine And.intro ?_ ?_))))
    · refine sx hXSg [] 4000 rfl (by (simp [-List.getD_eq_getElem?_getD, -List.length_eq_zero_iff, conjP])) ?_
      refine sx hXSg [.F] 4000 rfl (by (simp [-List.getD_eq_getElem?_getD, -List.length_eq_zero_iff, conjP, addOP, e1])) ?_
      refine sx hXSg [.T] 4000 rfl (by (simp [-List.getD_eq_getElem?_getD, -List.length_eq_zero_iff, conjP, addOP, e2])) ?_
      (exact ss_end hXSg [0, 1, 2, 3, 4, 5, 6, 7, 8, 9, 10] rfl rfl trivial rfl rfl rfl rfl (by (repeat' (first | exact rfl | exact trivial | exact sim_refl _ | refine And.intro ?_ ?_))) (by (repeat' (first | exact rfl | exact trivial | exact sim_refl _ | refine And.intro ?_ ?_))) (by (repeat' (first | exact rfl | exact trivial | exact sim_refl _ | refine And.intro ?_ ?_))) (by (repeat' (first | exact rfl | exact trivial | exact sim_refl _ | refine And.intro ?_ ?_))))

set_option maxHeartbeats 4000000 in
theorem yB01_fn (h1 : 1 ≤ R) (h2 : R ≤ 8) (hl : W.length = 21) (hs : 0 ≤ st) (hs' : st < 1000000) (hw0 : 0 ≤ W.getD 7 0) (hw1 : W.getD 7 0 < 18446744073709551616) (hb : bkB s m false s1.hd = true) :
    Gives Tryz.prog 11 [.ptr 0 0, .agg [.int .i64 s, .int .i64 m]] [.obj (xO R 1 3 5 n), AOx 2 W st kd wd vl ch, WO W, ROx 4 W st kd wd vl ch, WO W, .obj (kO 6 7 8 9), .obj (ycO .nilptr .nilptr (.raw p0) (.raw q0) id0), .obj (ycO (.ptr 10 0) .nilptr (.ptr 12 0) (.raw q1) id1), .opq, .opq, .obj (wrO R s1.ep s1.nx s1.sn s1.fl 0 s1.tm .niliface 11 s1.l.length s1.i s1.hd), .opq, .opq] (Is (.int .i64 (-1)) [.obj (xO R 1 3 5 n), AOx 2 ((W.set 7 (goneW (W.getD 7 0))).set 7 (bornW (goneW (W.getD 7 0)))) (st + 1 + 1) 2 7 (bornW (goneW (W.getD 7 0))) true, WO ((W.set 7 (goneW (W.getD 7 0))).set 7 (bornW (goneW (W.getD 7 0)))), ROx 4 ((W.set 7 (goneW (W.getD 7 0))).set 7 (bornW (goneW (W.getD 7 0)))) (st + 1 + 1) 2 7 (bornW (goneW (W.getD 7 0))) true, WO ((W.set 7 (goneW (W.getD 7 0))).set 7 (bornW (goneW (W.getD 7 0)))), .obj (kO 6 7 8 9), .obj (ycO .nilptr .nilptr (.raw p0) (.raw q0) id0), .obj (ycO (.ptr 10 0) .nilptr (.ptr 12 0) (.raw q1) id1), .opq, .opq, .obj (wrO R s1.ep s1.nx s1.sn s1.fl 0 s1.tm .niliface 11 s1.l.length s1.i s1.hd), .opq, .opq]) := by
  have e1 : ¬ ibits .and .i64 s 4 = 0 := fun q => by simp [bkB, q] at hb
  have e2 : ibits .and .i64 m 15 = 0 := by
    rcases Int.decEq (ibits .and .i64 m 15) 0 with q | q
    · simp [bkB, q] at hb
    · exact q
  have e4 : s1.hd = false := by rcases q : s1.hd with _ | _ <;> simp [bkB, q] at hb ⊢
  have h7 : 7 < W.length := by omega
  have hf := fitW hw0 hw1
  have hg : fitC ((epW (W.getD 7 0) + 1) % 32768) 0 0 := ⟨by omega, by omega, by decide, by decide, by decide, by decide⟩
  have g0 : 0 ≤ (goneW (W.getD 7 0)) := (pk_r hg false false).1
  have g1 : (goneW (W.getD 7 0)) < 18446744073709551616 := (pk_r hg false false).2
  have hw2 : (((W.set 7 (goneW (W.getD 7 0))).set 7 (bornW (goneW (W.getD 7 0))))).length = 21 := by simp only [List.length_set]; exact hl
  have hw2r := hw2.symm
  have e5 : IntKind.i64.wrap (st + 1) = st + 1 := wi64 (by omega) (by omega)
  have e6 : IntKind.i64.wrap (st + 1 + 1) = st + 1 + 1 := wi64 (by omega) (by omega)
  refine gives_x hXSg (fn := Tryz.f11) rfl rfl rfl rfl fun ρ w => ?_
  refine sx hXSg [] 4000 rfl (by (simp [-List.getD_eq_getElem?_getD, -List.length_eq_zero_iff, conjP])) ?_
  refine sx hXSg [.F] 4000 rfl (by (simp [-List.getD_eq_getElem?_getD, -List.length_eq_zero_iff, conjP, addOP, e1])) ?_
  refine sx hXSg [.F] 4000 rfl (by (simp [-List.getD_eq_getElem?_getD, -List.length_eq_zero_iff, conjP, e2])) ?_
  refine sx hXSg [.F] 4000 rfl (by (simp [-List.getD_eq_getElem?_getD, -List.length_eq_zero_iff, conjP, getH, HE.so, h1, h2, hl, hs, hw0, hw1, e4] <;> (first | omega | ((repeat' (refine And.intro ?_ ?_)) <;> (first | omega | exact decide_eq_false (by omega) | exact decide_eq_true (by omega)))))) ?_
  refine sx hXSg [.T, .T] 4000 rfl (by (simp [-List.getD_eq_getElem?_getD, -List.length_eq_zero_iff, conjP, getH, HE.so, h1, h2, hl, hw0, hw1, g0, g1] <;> (first | omega | ((repeat' (refine And.intro ?_ ?_)) <;> (first | omega | exact decide_eq_false (by omega) | exact decide_eq_true (by omega)))))) ?_
  refine sx hXSg [.T, .T] 4000 rfl (by (simp [-List.getD_eq_getElem?_getD, -List.length_eq_zero_iff, conjP, getH, HE.so, h1, h2, hl])) ?_
  (refine ss_end hXSg [0, 1, 2, 3, 4, 5, 6, 7, 8, 9, 10, 11, 12] rfl rfl trivial rfl rfl rfl rfl (by (repeat' (first | exact rfl | exact trivial | exact sim_refl _ | refine And.intro ?_ ?_))) ?hh (by (repeat' (first | exact rfl | exact trivial | exact sim_refl _ | refine And.intro ?_ ?_))) (by (repeat' (first | exact rfl | exact trivial | exact sim_refl _ | refine And.intro ?_ ?_))); (case hh => simp only [e5, e6, hl]; (repeat' (first | exact rfl | exact trivial | exact sim_refl _ | assumption | (simp; done) | (simp only [mulS_eq]; simp; done) | refine And.intro ?_ ?_)); done))

set_option maxHeartbeats 4000000 in
theorem yN10_fn (hb : bkB s m s0.hd false = false) : Gives Tryz.prog 11 [.ptr 0 0, .agg [.int .i64 s, .int .i64 m]] [.obj (xO R 1 2 3 n), .opq, .opq, .obj (kO 4 5 6 7), .obj (ycO (.ptr 8 0) .nilptr (.ptr 10 0) (.raw q0) id0), .obj (ycO .nilptr .nilptr (.raw p1) (.raw q1) id1), .opq, .opq, .obj (wrO R s0.ep s0.nx s0.sn s0.fl 0 s0.tm .niliface 9 s0.l.length s0.i s0.hd), .opq, .opq] (Is (.int .i64 (a3 s)) [.obj (xO R 1 2 3 n), .opq, .opq, .obj (kO 4 5 6 7), .obj (ycO (.ptr 8 0) .nilptr (.ptr 10 0) (.raw q0) id0), .obj (ycO .nilptr .nilptr (.raw p1) (.raw q1) id1), .opq, .opq, .obj (wrO R s0.ep s0.nx s0.sn s0.fl 0 s0.tm .niliface 9 s0.l.length s0.i s0.hd), .opq, .opq]) := by
  refine gives_x hXSg (fn := Tryz.f11) rfl rfl rfl rfl fun ρ w => ?_
  by_cases e1 : ibits .and .i64 s 4 = 0
  · refine sx hXSg [] 4000 rfl (by (simp [-List.getD_eq_getElem?_getD, -List.length_eq_zero_iff, conjP])) ?_
    refine sx hXSg [.T] 4000 rfl (by (simp [-List.getD_eq_getElem?_getD, -List.length_eq_zero_iff, conjP, addOP, e1])) ?_
    (exact ss_end hXSg [0, 1, 2, 3, 4, 5, 6, 7, 8, 9, 10] rfl rfl trivial rfl rfl rfl rfl (by (repeat' (first | exact rfl | exact trivial | exact sim_refl _ | refine And.intro ?_ ?_))) (by (repeat' (first | exact rfl | exact trivial | exact sim_refl _ | refine And.intro ?_ ?_))) (by (repeat' (first | exact rfl | exact trivial | exact sim_refl _ | refine And.intro ?_ ?_))) (by (repeat' (first | exact rfl | exact trivial | exact sim_refl _ | refine And.intro ?_ ?_))))
  · by_cases e2 : ibits .and .i64 m 15 = 0
    · rcases e3 : s0.hd with _ | _
      · simp [bkB, e1, e2, e3] at hb
      · refine sx hXSg [] 4000 rfl (by (simp [-List.getD_eq_getElem?_getD, -List.length_eq_zero_iff, conjP])) ?_
        refine sx hXSg [.F] 4000 rfl (by (simp [-List.getD_eq_getElem?_getD, -List.length_eq_zero_iff, conjP, addOP, e1])) ?_
        refine sx hXSg [.F] 4000 rfl (by (simp [-List.getD_eq_getElem?_getD, -List.length_eq_zero_iff, conjP, e2])) ?_
        refine sx hXSg [.T] 4000 rfl (by (simp [-List.getD_eq_getElem?_getD, -List.length_eq_zero_iff, conjP, addOP])) ?_
        (exact ss_end hXSg [0, 1, 2, 3, 4, 5, 6, 7, 8, 9, 10] rfl rfl trivial rfl rfl rfl rfl (by (repeat' (first | exact rfl | exact trivial | exact sim_refl _ | refine And.intro ?_ ?_))) (by (repeat' (first | exact rfl | exact trivial | exact sim_refl _ | refine And.intro ?_ ?_))) (by (repeat' (first | exact rfl | exact trivial | exact sim_refl _ | refine And.intro ?_ ?_))) (by (repeat' (first | exact rfl | exact trivial | exact sim_refl _ | refine And.intro ?_ ?_))))
    · refine sx hXSg [] 4000 rfl (by (simp [-List.getD_eq_getElem?_getD, -List.length_eq_zero_iff, conjP])) ?_
      refine sx hXSg [.F] 4000 rfl (by (simp [-List.getD_eq_getElem?_getD, -List.length_eq_zero_iff, conjP, addOP, e1])) ?_
      refine sx hXSg [.T] 4000 rfl (by (simp [-List.getD_eq_getElem?_getD, -List.length_eq_zero_iff, conjP, addOP, e2])) ?_
      (exact ss_end hXSg [0, 1, 2, 3, 4, 5, 6, 7, 8, 9, 10] rfl rfl trivial rfl rfl rfl rfl (by (repeat' (first | exact rfl | exact trivial | exact sim_refl _ | refine And.intro ?_ ?_))) (by (repeat' (first | exact rfl | exact trivial | exact sim_refl _ | refine And.intro ?_ ?_))) (by (repeat' (first | exact rfl | exact trivial | exact sim_refl _ | refine And.intro ?_ ?_))) (by (repeat' (first | exact rfl | exact trivial | exact sim_refl _ | refine And.intro ?_ ?_))))

set_option maxHeartbeats 4000000 in
theorem yB10_fn (h1 : 1 ≤ R) (h2 : R ≤ 8) (hl : W.length = 21) (hs : 0 ≤ st) (hs' : st < 1000000) (hw0 : 0 ≤ W.getD 7 0) (hw1 : W.getD 7 0 < 18446744073709551616) (hb : bkB s m s0.hd false = true) :
    Gives Tryz.prog 11 [.ptr 0 0, .agg [.int .i64 s, .int .i64 m]] [.obj (xO R 1 3 5 n), AOx 2 W st kd wd vl ch, WO W, ROx 4 W st kd wd vl ch, WO W, .obj (kO 6 7 8 9), .obj (ycO (.ptr 10 0) .nilptr (.ptr 12 0) (.raw q0) id0), .obj (ycO .nilptr .nilptr (.raw p1) (.raw q1) id1), .opq, .opq, .obj (wrO R s0.ep s0.nx s0.sn s0.fl 0 s0.tm .niliface 11 s0.l.length s0.i s0.hd), .opq, .opq] (Is (.int .i64 (-1)) [.obj (xO R 1 3 5 n), AOx 2 ((W.set 7 (goneW (W.getD 7 0))).set 7 (bornW (goneW (W.getD 7 0)))) (st + 1 + 1) 2 7 (bornW (goneW (W.getD 7 0))) true, WO ((W.set 7 (goneW (W.getD 7 0))).set 7 (bornW (goneW (W.getD 7 0)))), ROx 4 ((W.set 7 (goneW (W.getD 7 0))).set 7 (bornW (goneW (W.getD 7 0)))) (st + 1 + 1) 2 7 (bornW (goneW (W.getD 7 0))) true, WO ((W.set 7 (goneW (W.getD 7 0))).set 7 (bornW (goneW (W.getD 7 0)))), .obj (kO 6 7 8 9), .obj (ycO (.ptr 10 0) .nilptr (.ptr 12 0) (.raw q0) id0), .obj (ycO .nilptr .nilptr (.raw p1) (.raw q1) id1), .opq, .opq, .obj (wrO R s0.ep s0.nx s0.sn s0.fl 0 s0.tm .niliface 11 s0.l.length s0.i s0.hd), .opq, .opq]) := by
  have e1 : ¬ ibits .and .i64 s 4 = 0 := fun q => by simp [bkB, q] at hb
  have e2 : ibits .and .i64 m 15 = 0 := by
    rcases Int.decEq (ibits .and .i64 m 15) 0 with q | q
    · simp [bkB, q] at hb
    · exact q
  have e3 : s0.hd = false := by rcases q : s0.hd with _ | _ <;> simp [bkB, q] at hb ⊢
  have h7 : 7 < W.length := by omega
  have hf := fitW hw0 hw1
  have hg : fitC ((epW (W.getD 7 0) + 1) % 32768) 0 0 := ⟨by omega, by omega, by decide, by decide, by decide, by decide⟩
  have g0 : 0 ≤ (goneW (W.getD 7 0)) := (pk_r hg false false).1
  have g1 : (goneW (W.getD 7 0)) < 18446744073709551616 := (pk_r hg false false).2
  have hw2 : (((W.set 7 (goneW (W.getD 7 0))).set 7 (bornW (goneW (W.getD 7 0))))).length = 21 := by simp only [List.length_set]; exact hl
  have hw2r := hw2.symm
  have e5 : IntKind.i64.wrap (st + 1) = st + 1 := wi64 (by omega) (by omega)
  have e6 : IntKind.i64.wrap (st + 1 + 1) = st + 1 + 1 := wi64 (by omega) (by omega)
  refine gives_x hXSg (fn := Tryz.f11) rfl rfl rfl rfl fun ρ w => ?_
  refine sx hXSg [] 4000 rfl (by (simp [-List.getD_eq_getElem?_getD, -List.length_eq_zero_iff, conjP])) ?_
  refine sx hXSg [.F] 4000 rfl (by (simp [-List.getD_eq_getElem?_getD, -List.length_eq_zero_iff, conjP, addOP, e1])) ?_
  refine sx hXSg [.F] 4000 rfl (by (simp [-List.getD_eq_getElem?_getD, -List.length_eq_zero_iff, conjP, e2])) ?_
  refine sx hXSg [.F] 4000 rfl (by (simp [-List.getD_eq_getElem?_getD, -List.length_eq_zero_iff, conjP, getH, HE.so, h1, h2, hl, hs, hw0, hw1, e3] <;> (first | omega | ((repeat' (refine And.intro ?_ ?_)) <;> (first | omega | exact decide_eq_false (by omega) | exact decide_eq_true (by omega)))))) ?_
  refine sx hXSg [.T, .T] 4000 rfl (by (simp [-List.getD_eq_getElem?_getD, -List.length_eq_zero_iff, conjP, getH, HE.so, h1, h2, hl, hw0, hw1, g0, g1] <;> (first | omega | ((repeat' (refine And.intro ?_ ?_)) <;> (first | omega | exact decide_eq_false (by omega) | exact decide_eq_true (by omega)))))) ?_
  refine sx hXSg [.T, .T] 4000 rfl (by (simp [-List.getD_eq_getElem?_getD, -List.length_eq_zero_iff, conjP, getH, HE.so, h1, h2, hl])) ?_
  (refine ss_end hXSg [0, 1, 2, 3, 4, 5, 6, 7, 8, 9, 10, 11, 12] rfl rfl trivial rfl rfl rfl rfl (by (repeat' (first | exact rfl | exact trivial | exact sim_refl _ | refine And.intro ?_ ?_))) ?hh (by (repeat' (first | exact rfl | exact trivial | exact sim_refl _ | refine And.intro ?_ ?_))) (by (repeat' (first | exact rfl | exact trivial | exact sim_refl _ | refine And.intro ?_ ?_))); (case hh => simp only [e5, e6, hl]; (repeat' (first | exact rfl | exact trivial | exact sim_refl _ | assumption | (simp; done) | (simp only [mulS_eq]; simp; done) | refine And.intro ?_ ?_)); done))

set_option maxHeartbeats 4000000 in
theorem yN11_fn (hb : bkB s m s0.hd s1.hd = false) : Gives Tryz.prog 11 [.ptr 0 0, .agg [.int .i64 s, .int .i64 m]] [.obj (xO R 1 2 3 n), .opq, .opq, .obj (kO 4 5 6 7), .obj (ycO (.ptr 8 0) .nilptr (.ptr 10 0) (.raw q0) id0), .obj (ycO (.ptr 11 0) .nilptr (.ptr 13 0) (.raw q1) id1), .opq, .opq, .obj (wrO R s0.ep s0.nx s0.sn s0.fl 0 s0.tm .niliface 9 s0.l.length s0.i s0.hd), .opq, .opq, .obj (wrO R s1.ep s1.nx s1.sn s1.fl 0 s1.tm .niliface 12 s1.l.length s1.i s1.hd), .opq, .opq] (Is (.int .i64 (a3 s)) [.obj (xO R 1 2 3 n), .opq, .opq, .obj (kO 4 5 6 7), .obj (ycO (.ptr 8 0) .nilptr (.ptr 10 0) (.raw q0) id0), .obj (ycO (.ptr 11 0) .nilptr (.ptr 13 0) (.raw q1) id1), .opq, .opq, .obj (wrO R s0.ep s0.nx s0.sn s0.fl 0 s0.tm .niliface 9 s0.l.length s0.i s0.hd), .opq, .opq, .obj (wrO R s1.ep s1.nx s1.sn s1.fl 0 s1.tm .niliface 12 s1.l.length s1.i s1.hd), .opq, .opq]) := by
  refine gives_x hXSg (fn := Tryz.f11) rfl rfl rfl rfl fun ρ w => ?_
  by_cases e1 : ibits .and .i64 s 4 = 0
  · refine sx hXSg [] 4000 rfl (by (simp [-List.getD_eq_getElem?_getD, -List.length_eq_zero_iff, conjP])) ?_
    refine sx hXSg [.T] 4000 rfl (by (simp [-List.getD_eq_getElem?_getD, -List.length_eq_zero_iff, conjP, addOP, e1])) ?_
    (exact ss_end hXSg [0, 1, 2, 3, 4, 5, 6, 7, 8, 9, 10, 11, 12, 13] rfl rfl trivial rfl rfl rfl rfl (by (repeat' (first | exact rfl | exact trivial | exact sim_refl _ | refine And.intro ?_ ?_))) (by (repeat' (first | exact rfl | exact trivial | exact sim_refl _ | refine And.intro ?_ ?_))) (by (repeat' (first | exact rfl | exact trivial | exact sim_refl _ | refine And.intro ?_ ?_))) (by (repeat' (first | exact rfl | exact trivial | exact sim_refl _ | refine And.intro ?_ ?_))))
  · by_cases e2 : ibits .and .i64 m 15 = 0
    · rcases e3 : s0.hd with _ | _
      · rcases e4 : s1.hd with _ | _
        · simp [bkB, e1, e2, e3, e4] at hb
        · refine sx hXSg [] 4000 rfl (by (simp [-List.getD_eq_getElem?_getD, -List.length_eq_zero_iff, conjP])) ?_
          refine sx hXSg [.F] 4000 rfl (by (simp [-List.getD_eq_getElem?_getD, -List.length_eq_zero_iff, conjP, addOP, e1])) ?_
          refine sx hXSg [.F] 4000 rfl (by (simp [-List.getD_eq_getElem?_getD, -List.length_eq_zero_iff, conjP, e2])) ?_
          refine sx hXSg [.F] 4000 rfl (by (simp [-List.getD_eq_getElem?_getD, -List.length_eq_zero_iff, conjP])) ?_
          refine sx hXSg [.T] 4000 rfl (by (simp [-List.getD_eq_getElem?_getD, -List.length_eq_zero_iff, conjP, addOP])) ?_
          (exact ss_end hXSg [0, 1, 2, 3, 4, 5, 6, 7, 8, 9, 10, 11, 12, 13] rfl rfl trivial rfl rfl rfl rfl (by (repeat' (first | exact rfl | exact trivial | exact sim_refl _ | refine And.intro ?_ ?_))) (by (repeat' (first | exact rfl | exact trivial | exact sim_refl _ | refine And.intro ?_ ?_))) (by (repeat' (first | exact rfl | exact trivial | exact sim_refl _ | refine And.intro ?_ ?_))) (by (repeat' (first | exact rfl | exact trivial | exact sim_refl _ | refine And.intro ?_ ?_))))
      · refine sx hXSg [] 4000 rfl (by (simp [-List.getD_eq_getElem?_getD, -List.length_eq_zero_iff, conjP])) ?_
        refine sx hXSg [.F] 4000 rfl (by (simp [-List.getD_eq_getElem?_getD, -List.length_eq_zero_iff, conjP, addOP, e1])) ?_
        refine sx hXSg [.F] 4000 rfl (by (simp [-List.getD_eq_getElem?_getD, -List.length_eq_zero_iff, conjP, e2])) ?_
        refine sx hXSg [.T] 4000 rfl (by (simp [-List.getD_eq_getElem?_getD, -List.length_eq_zero_iff, conjP, addOP])) ?_
        (exact ss_end hXSg [0, 1, 2, 3, 4, 5, 6, 7, 8, 9, 10, 11, 12, 13] rfl rfl trivial rfl rfl rfl rfl (by (repeat' (first | exact rfl | exact trivial | exact sim_refl _ | refine And.intro ?_ ?_))) (by (repeat' (first | exact rfl | exact trivial | exact sim_refl _ | refine And.intro ?_ ?_))) (by (repeat' (first | exact rfl | exact trivial | exact sim_refl _ | refine And.intro ?_ ?_))) (by (repeat' (first | exact rfl | exact trivial | exact sim_refl _ | refine And.intro ?_ ?_))))
    · refine sx hXSg [] 4000 rfl (by (simp [-List.getD_eq_getElem?_getD, -List.length_eq_zero_iff, conjP])) ?_
      refine sx hXSg [.F] 4000 rfl (by (simp [-List.getD_eq_getElem?_getD, -List.length_eq_zero_iff, conjP, addOP, e1])) ?_
      refine sx hXSg [.T] 4000 rfl (by (simp [-List.getD_eq_getElem?_getD, -List.length_eq_zero_iff, conjP, addOP, e2])) ?_
      (exact ss_end hXSg [0, 1, 2, 3, 4, 5, 6, 7, 8, 9, 10, 11, 12, 13] rfl rfl trivial rfl rfl rfl rfl (by (repeat' (first | exact rfl | exact trivial | exact sim_refl _ | refine And.intro ?_ ?_))) (by (repeat' (first | exact rfl | exact trivial | exact sim_refl _ | refine And.intro ?_ ?_))) (by (repeat' (first | exact rfl | exact trivial | exact sim_refl _ | refine And.intro ?_ ?_))) (by (repeat' (first | exact rfl | exact trivial | exact sim_refl _ | refine And.intro ?_ ?_))))

set_option maxHeartbeats 4000000 in
theorem yB11_fn (h1 : 1 ≤ R) (h2 : R ≤ 8) (hl : W.length = 21) (hs : 0 ≤ st) (hs' : st < 1000000) (hw0 : 0 ≤ W.getD 7 0) (hw1 : W.getD 7 0 < 18446744073709551616) (hb : bkB s m s0.hd s1.hd = true) :
    Gives Tryz.prog 11 [.ptr 0 0, .agg [.int .i64 s, .int .i64 m]] [.obj (xO R 1 3 5 n), AOx 2 W st kd wd vl ch, WO W, ROx 4 W st kd wd vl ch, WO W, .obj (kO 6 7 8 9), .obj (ycO (.ptr 10 0) .nilptr (.ptr 12 0) (.raw q0) id0), .obj (ycO (.ptr 13 0) .nilptr (.ptr 15 0) (.raw q1) id1), .opq, .opq, .obj (wrO R s0.ep s0.nx s0.sn s0.fl 0 s0.tm .niliface 11 s0.l.length s0.i s0.hd), .opq, .opq, .obj (wrO R s1.ep s1.nx s1.sn s1.fl 0 s1.tm .niliface 14 s1.l.length s1.i s1.hd), .opq, .opq] (Is (.int .i64 (-1)) [.obj (xO R 1 3 5 n), AOx 2 ((W.set 7 (goneW (W.getD 7 0))).set 7 (bornW (goneW (W.getD 7 0)))) (st + 1 + 1) 2 7 (bornW (goneW (W.getD 7 0))) true, WO ((W.set 7 (goneW (W.getD 7 0))).set 7 (bornW (goneW (W.getD 7 0)))), ROx 4 ((W.set 7 (goneW (W.getD 7 0))).set 7 (bornW (goneW (W.getD 7 0)))) (st + 1 + 1) 2 7 (bornW (goneW (W.getD 7 0))) true, WO ((W.set 7 (goneW (W.getD 7 0))).set 7 (bornW (goneW (W.getD 7 0)))), .obj (kO 6 7 8 9), .obj (ycO (.ptr 10 0) .nilptr (.ptr 12 0) (.raw q0) id0), .obj (ycO (.ptr 13 0) .nilptr (.ptr 15 0) (.raw q1) id1), .opq, .opq, .obj (wrO R s0.ep s0.nx s0.sn s0.fl 0 s0.tm .niliface 11 s0.l.length s0.i s0.hd), .opq, .opq, .obj (wrO R s1.ep s1.nx s1.sn s1.fl 0 s1.tm .niliface 14 s1.l.length s1.i s1.hd), .opq, .opq]) := by
  have e1 : ¬ ibits .and .i64 s 4 = 0 := fun q => by simp [bkB, q] at hb
  have e2 : ibits .and .i64 m 15 = 0 := by
    rcases Int.decEq (ibits .and .i64 m 15) 0 with q | q
    · simp [bkB, q] at hb
    · exact q
  have e3 : s0.hd = false := by rcases q : s0.hd with _ | _ <;> simp [bkB, q] at hb ⊢
  have e4 : s1.hd = false := by rcases q : s1.hd with _ | _ <;> simp [bkB, q] at hb ⊢
  have h7 : 7 < W.length := by omega
  have hf := fitW hw0 hw1
  have hg : fitC ((epW (W.getD 7 0) + 1) % 32768) 0 0 := ⟨by omega, by omega, by decide, by decide, by decide, by decide⟩
  have g0 : 0 ≤ (goneW (W.getD 7 0)) := (pk_r hg false false).1
  have g1 : (goneW (W.getD 7 0)) < 18446744073709551616 := (pk_r hg false false).2
  have hw2 : (((W.set 7 (goneW (W.getD 7 0))).set 7 (bornW (goneW (W.getD 7 0))))).length = 21 := by simp only [List.length_set]; exact hl
  have hw2r := hw2.symm
  have e5 : IntKind.i64.wrap (st + 1) = st + 1 := wi64 (by omega) (by omega)
  have e6 : IntKind.i64.wrap (st + 1 + 1) = st + 1 + 1 := wi64 (by omega) (by omega)
  refine gives_x hXSg (fn := Tryz.f11) rfl rfl rfl rfl fun ρ w => ?_
  refine sx hXSg [] 4000 rfl (by (simp [-List.getD_eq_getElem?_getD, -List.length_eq_zero_iff, conjP])) ?_
  refine sx hXSg [.F] 4000 rfl (by (simp [-List.getD_eq_getElem?_getD, -List.length_eq_zero_iff, conjP, addOP, e1])) ?_
  refine sx hXSg [.F] 4000 rfl (by (simp [-List.getD_eq_getElem?_getD, -List.length_eq_zero_iff, conjP, e2])) ?_
  refine sx hXSg [.F] 4000 rfl (by (simp [-List.getD_eq_getElem?_getD, -List.length_eq_zero_iff, conjP, e3])) ?_
  refine sx hXSg [.F] 4000 rfl (by (simp [-List.getD_eq_getElem?_getD, -List.length_eq_zero_iff, conjP, getH, HE.so, h1, h2, hl, hs, hw0, hw1, e4] <;> (first | omega | ((repeat' (refine And.intro ?_ ?_)) <;> (first | omega | exact decide_eq_false (by omega) | exact decide_eq_true (by omega)))))) ?_
  refine sx hXSg [.T, .T] 4000 rfl (by (simp [-List.getD_eq_getElem?_getD, -List.length_eq_zero_iff, conjP, getH, HE.so, h1, h2, hl, hw0, hw1, g0, g1] <;> (first | omega | ((repeat' (refine And.intro ?_ ?_)) <;> (first | omega | exact decide_eq_false (by omega) | exact decide_eq_true (by omega)))))) ?_
  refine sx hXSg [.T, .T] 4000 rfl (by (simp [-List.getD_eq_getElem?_getD, -List.length_eq_zero_iff, conjP, getH, HE.so, h1, h2, hl])) ?_
  (refine ss_end hXSg [0, 1, 2, 3, 4, 5, 6, 7, 8, 9, 10, 11, 12, 13, 14, 15] rfl rfl trivial rfl rfl rfl rfl (by (repeat' (first | exact rfl | exact trivial | exact sim_refl _ | refine And.intro ?_ ?_))) ?hh (by (repeat' (first | exact rfl | exact trivial | exact sim_refl _ | refine And.intro ?_ ?_))) (by (repeat' (first | exact rfl | exact trivial | exact sim_refl _ | refine And.intro ?_ ?_))); (case hh => simp only [e5, e6, hl]; (repeat' (first | exact rfl | exact trivial | exact sim_refl _ | assumption | (simp; done) | (simp only [mulS_eq]; simp; done) | refine And.intro ?_ ?_)); done))

theorem yb0_fn : Gives Tryz.prog 12 [.ptr 0 0, .int .i64 0, .int .i64 m] [.obj (xO R 1 2 3 n), .opq, .opq, .obj (kO 4 5 6 7), .obj (ycO (.ptr 8 0) .nilptr (.ptr 9 0) (.raw q) id), .opq, .opq, .opq, .opq, .opq] (Is (.tup []) [.obj (xO R 1 2 3 n), .opq, .opq, .obj (kO 4 5 6 7), .obj (ycO (.ptr 8 0) .nilptr (.ptr 9 0) (.raw q) id), .opq, .opq, .opq, .opq, .opq]) := by
  refine gives_x hXSg (fn := Tryz.f12) rfl rfl rfl rfl fun ρ w => ?_
  refine sx hXSg [] 4000 rfl (by (simp [-List.getD_eq_getElem?_getD, -List.length_eq_zero_iff, conjP])) ?_
  (exact ss_end hXSg [0, 1, 2, 3, 4, 5, 6, 7, 8, 9] rfl rfl trivial rfl rfl rfl rfl (by (repeat' (first | exact rfl | exact trivial | exact sim_refl _ | refine And.intro ?_ ?_))) (by (repeat' (first | exact rfl | exact trivial | exact sim_refl _ | refine And.intro ?_ ?_))) (by (repeat' (first | exact rfl | exact trivial | exact sim_refl _ | refine And.intro ?_ ?_))) (by (repeat' (first | exact rfl | exact trivial | exact sim_refl _ | refine And.intro ?_ ?_))))

theorem yb1_fn : Gives Tryz.prog 12 [.ptr 0 0, .int .i64 1, .int .i64 m] [.obj (xO R 1 2 3 n), .opq, .opq, .obj (kO 4 5 6 7), .opq, .obj (ycO (.ptr 8 0) .nilptr (.ptr 9 0) (.raw q) id), .opq, .opq, .opq, .opq] (Is (.tup []) [.obj (xO R 1 2 3 n), .opq, .opq, .obj (kO 4 5 6 7), .opq, .obj (ycO (.ptr 8 0) .nilptr (.ptr 9 0) (.raw q) id), .opq, .opq, .opq, .opq]) := by
  refine gives_x hXSg (fn := Tryz.f12) rfl rfl rfl rfl fun ρ w => ?_
  refine sx hXSg [] 4000 rfl (by (simp [-List.getD_eq_getElem?_getD, -List.length_eq_zero_iff, conjP])) ?_
  (exact ss_end hXSg [0, 1, 2, 3, 4, 5, 6, 7, 8, 9] rfl rfl trivial rfl rfl rfl rfl (by (repeat' (first | exact rfl | exact trivial | exact sim_refl _ | refine And.intro ?_ ?_))) (by (repeat' (first | exact rfl | exact trivial | exact sim_refl _ | refine And.intro ?_ ?_))) (by (repeat' (first | exact rfl | exact trivial | exact sim_refl _ | refine And.intro ?_ ?_))) (by (repeat' (first | exact rfl | exact trivial | exact sim_refl _ | refine And.intro ?_ ?_))))

theorem yb2_fn : Gives Tryz.prog 12 [.ptr 0 0, .int .i64 2, .int .i64 m] [.obj (xO R 1 2 3 n), .opq, .opq, .obj (kO 4 5 6 7), .opq, .opq, .obj (ycO .nilptr (.ptr 8 0) (.raw p) (.ptr 9 0) id), .opq, .opq, .opq] (Is (.tup []) [.obj (xO R 1 2 3 n), .opq, .opq, .obj (kO 4 5 6 7), .opq, .opq, .obj (ycO .nilptr (.ptr 8 0) (.raw p) (.ptr 9 0) id), .opq, .opq, .opq]) := by
  refine gives_x hXSg (fn := Tryz.f12) rfl rfl rfl rfl fun ρ w => ?_
  refine sx hXSg [] 4000 rfl (by (simp [-List.getD_eq_getElem?_getD, -List.length_eq_zero_iff, conjP])) ?_
  (exact ss_end hXSg [0, 1, 2, 3, 4, 5, 6, 7, 8, 9] rfl rfl trivial rfl rfl rfl rfl (by (repeat' (first | exact rfl | exact trivial | exact sim_refl _ | refine And.intro ?_ ?_))) (by (repeat' (first | exact rfl | exact trivial | exact sim_refl _ | refine And.intro ?_ ?_))) (by (repeat' (first | exact rfl | exact trivial | exact sim_refl _ | refine And.intro ?_ ?_))) (by (repeat' (first | exact rfl | exact trivial | exact sim_refl _ | refine And.intro ?_ ?_))))

theorem yb3_fn : Gives Tryz.prog 12 [.ptr 0 0, .int .i64 3, .int .i64 m] [.obj (xO R 1 2 3 n), .opq, .opq, .obj (kO 4 5 6 7), .opq, .opq, .opq, .obj (ycO .nilptr (.ptr 8 0) (.raw p) (.ptr 9 0) id), .opq, .opq] (Is (.tup []) [.obj (xO R 1 2 3 n), .opq, .opq, .obj (kO 4 5 6 7), .opq, .opq, .opq, .obj (ycO .nilptr (.ptr 8 0) (.raw p) (.ptr 9 0) id), .opq, .opq]) := by
  refine gives_x hXSg (fn := Tryz.f12) rfl rfl rfl rfl fun ρ w => ?_
  refine sx hXSg [] 4000 rfl (by (simp [-List.getD_eq_getElem?_getD, -List.length_eq_zero_iff, conjP])) ?_
  (exact ss_end hXSg [0, 1, 2, 3, 4, 5, 6, 7, 8, 9] rfl rfl trivial rfl rfl rfl rfl (by (repeat' (first | exact rfl | exact trivial | exact sim_refl _ | refine And.intro ?_ ?_))) (by (repeat' (first | exact rfl | exact trivial | exact sim_refl _ | refine And.intro ?_ ?_))) (by (repeat' (first | exact rfl | exact trivial | exact sim_refl _ | refine And.intro ?_ ?_))) (by (repeat' (first | exact rfl | exact trivial | exact sim_refl _ | refine And.intro ?_ ?_))))

end
end Go.Proofs.YtmghcelohnlceaaGreatDoor
