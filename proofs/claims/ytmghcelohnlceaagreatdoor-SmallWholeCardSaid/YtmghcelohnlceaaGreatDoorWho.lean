/- The clients of these laws, and which of them has its turn. -/
import Derived.Test.YtmghcelohnlceaaGreatDoorHyc
import Derived.Test.YtmghcelohnlceaaGreatDoorReadSteps
namespace Go.Proofs.YtmghcelohnlceaaGreatDoor
open Go Go.Hx
set_option maxRecDepth 8000
/-- A run that writes, under way. -/
structure WS where
  (ep nx sn fl tm i : Int) (hd : Bool) (l : List Int)
def wrP (o : Option WS) (h : Nat) : SV := match o with | none => .nilptr | some _ => .ptr h 0
def wrE (R : Int) (o : Option WS) (hw : Nat) : HE := match o with | none => .absent | some s => .obj (wrO R s.ep s.nx s.sn s.fl 0 s.tm .niliface hw s.l.length s.i s.hd)
def wlE (o : Option WS) : HE := match o with | none => .absent | some s => wdE s.l
def hdO (o : Option WS) : Bool := match o with | none => false | some s => s.hd
/-- A run that reads, under way. -/
structure RS where
  (ep nx sn fl tm : Int) (o : Option (List Int))
def rdP (o : Option RS) (h : Nat) : SV := match o with | none => .nilptr | some _ => .ptr h 0
def rdE (R : Int) (o : Option RS) (hw : Nat) : HE := match o with | none => .absent | some s => .obj (rdO R s.ep s.nx s.sn s.fl 0 s.tm .niliface (slV s.o hw))
def rlE (o : Option RS) : HE := match o with | none => .absent | some s => slE s.o .u64 39
abbrev cqO (w r : SV) (p q : Value) (id : Int) : SO := .cells [w, r, .raw p, .raw q, .int .u64 id] 47
/-- The document's arena's words: as they were made, or a copy of the program's. -/
def bsV (f : Bool) (h : Nat) : SV := bif f then .sbuf h 1 0 21 else .slice h 0 21 21
def bwE (f : Bool) (W : List Int) : HE := bif f then wdE W else WO W
abbrev rbO (b : SV) (st kd wd vl : Int) (ch : Bool) : SO := .cells [b, .int .i64 st, .int .i64 kd, .int .i64 wd, .int .u64 vl, .bool ch, .ff, .int .i64 0] 54
def a3 (s : Int) : Int := ibits .and .i64 s 3
/-- Does the topic go, and come anew? -/
def bkB (s n : Int) (h0 h1 : Bool) : Bool := !(decide (ibits .and .i64 s 4 = 0)) && (decide (ibits .and .i64 n 15 = 0) && (!h0 && !h1))
def ctSg : Nat → Option Hx.Spec
  | 22 => some (pureS ctlKS)
  | 41 => some (pureS ctlKS)
  | 40 => some (pureS rbornS)
  | 42 => some (pureS rgoneS)
  | 51 => some (arStoreS)
  | _ => none
theorem ctSg_ok : ∀ f s args H ob V L, ctSg f = some s → s args H = some (ob, V, L) → AllP ob → Gives Tryz.prog f args H (Is V L) := by
  intro f s args H ob V L h hs ho
  unfold ctSg at h
  split at h
  · simp at h; subst h; exact pureS_ok ⟨_, hTE⟩ (ctlKS_ok) hs ho
  · simp at h; subst h; exact pureS_ok ⟨_, hTE⟩ (rctlKS_ok) hs ho
  · simp at h; subst h; exact pureS_ok ⟨_, hTE⟩ (rbornS_ok) hs ho
  · simp at h; subst h; exact pureS_ok ⟨_, hTE⟩ (rgoneS_ok) hs ho
  · simp at h; subst h; exact arStoreS_ok hs ho
  · simp at h
noncomputable def XSg : Tabs := tabs tr ft xt (fun _ => none) ctSg 20
theorem hXSg : TOk Tryz.prog (XSg) := ⟨hTE, hFT, ctSg_ok, hXT, fun t ks h => by simp [XSg, tabs] at h, mixed⟩
section
variable {R n st kd wd vl stb kdb wdb vlb id0 id1 s m : Int} {ch chb : Bool} {W : List Int} {p0 q0 p1 q1 : Value} {s0 s1 : WS}

set_option maxHeartbeats 4000000 in
theorem whoN00_fn (hb : bkB s m false false = false) : Gives Tryz.prog 11 [.ptr 0 0, .agg [.int .i64 s, .int .i64 m]] [.obj (xO R 1 2 3 n), .opq, .opq, .obj (kO 4 5 6 7), .obj (cqO .nilptr .nilptr p0 q0 id0), .obj (cqO .nilptr .nilptr p1 q1 id1), .opq, .opq] (Is (.int .i64 (a3 s)) [.obj (xO R 1 2 3 n), .opq, .opq, .obj (kO 4 5 6 7), .obj (cqO .nilptr .nilptr p0 q0 id0), .obj (cqO .nilptr .nilptr p1 q1 id1), .opq, .opq]) := by
  refine gives_x hXSg (fn := Tryz.f11) rfl rfl rfl rfl fun ρ w => ?_
  by_cases e1 : ibits .and .i64 s 4 = 0
  · refine sx hXSg [] 4000 rfl (by (simp [-List.getD_eq_getElem?_getD, -List.length_eq_zero_iff, conjP])) ?_
    refine sx hXSg [.T] 4000 rfl (by (simp [-List.getD_eq_getElem?_getD, -List.length_eq_zero_iff, conjP, addOP, e1])) ?_
    (exact ss_end hXSg [0, 1, 2, 3, 4, 5, 6, 7] rfl rfl trivial rfl rfl rfl rfl (by (repeat' (first | exact rfl | exact trivial | exact sim_refl _ | refine And.intro ?_ ?_))) (by (repeat' (first | exact rfl | exact trivial | exact sim_refl _ | refine And.intro ?_ ?_))) (by (repeat' (first | exact rfl | exact trivial | exact sim_refl _ | refine And.intro ?_ ?_))) (by (repeat' (first | exact rfl | exact trivial | exact sim_refl _ | refine And.intro ?_ ?_))))
  · by_cases e2 : ibits .and .i64 m 15 = 0
    · simp [bkB, e1, e2] at hb
    · refine sx hXSg [] 4000 rfl (by (simp [-List.getD_eq_getElem?_getD, -List.length_eq_zero_iff, conjP])) ?_
      refine sx hXSg [.F] 4000 rfl (by (simp [-List.getD_eq_getElem?_getD, -List.length_eq_zero_iff, conjP, addOP, e1])) ?_
      refine sx hXSg [.T] 4000 rfl (by (simp [-List.getD_eq_getElem?_getD, -List.length_eq_zero_iff, conjP, addOP, e2])) ?_
      (exact ss_end hXSg [0, 1, 2, 3, 4, 5, 6, 7] rfl rfl trivial rfl rfl rfl rfl (by (repeat' (first | exact rfl | exact trivial | exact sim_refl _ | refine And.intro ?_ ?_))) (by (repeat' (first | exact rfl | exact trivial | exact sim_refl _ | refine And.intro ?_ ?_))) (by (repeat' (first | exact rfl | exact trivial | exact sim_refl _ | refine And.intro ?_ ?_))) (by (repeat' (first | exact rfl | exact trivial | exact sim_refl _ | refine And.intro ?_ ?_))))

set_option maxHeartbeats 4000000 in
theorem whoB000_fn (h1 : 1 ≤ R) (h2 : R ≤ 8) (hl : W.length = 21) (hs : 0 ≤ st) (hs' : st < 1000000) (ht : 0 ≤ stb) (ht' : stb < 1000000) (hw0 : 0 ≤ W.getD 7 0) (hw1 : W.getD 7 0 < 18446744073709551616) (hb : bkB s m false false = true) :
    Gives Tryz.prog 11 [.ptr 0 0, .agg [.int .i64 s, .int .i64 m]] [.obj (xO R 1 3 5 n), AOx 2 W st kd wd vl ch, WO W, .obj (rbO (.slice 4 0 21 21) stb kdb wdb vlb chb), WO W, .obj (kO 6 7 8 9), .obj (cqO .nilptr .nilptr p0 q0 id0), .obj (cqO .nilptr .nilptr p1 q1 id1), .opq, .opq] (Is (.int .i64 (-1)) [.obj (xO R 1 3 5 n), AOx 2 ((W.set 7 (goneW (W.getD 7 0))).set 7 (bornW (goneW (W.getD 7 0)))) (st + 1 + 1) 2 7 (bornW (goneW (W.getD 7 0))) true, WO ((W.set 7 (goneW (W.getD 7 0))).set 7 (bornW (goneW (W.getD 7 0)))), .obj (rbO (.slice 4 0 21 21) (stb + 1 + 1) 2 7 (bornW (goneW (W.getD 7 0))) true), WO ((W.set 7 (goneW (W.getD 7 0))).set 7 (bornW (goneW (W.getD 7 0)))), .obj (kO 6 7 8 9), .obj (cqO .nilptr .nilptr p0 q0 id0), .obj (cqO .nilptr .nilptr p1 q1 id1), .opq, .opq]) := by
  have e1 : ¬ ibits .and .i64 s 4 = 0 := fun q => by simp [bkB, q] at hb
  have e2 : ibits .and .i64 m 15 = 0 := by
    rcases Int.decEq (ibits .and .i64 m 15) 0 with q | q
    · simp [bkB, q] at hb
    · exact q
  have h7 : 7 < W.length := by omega
  have hf := fitW hw0 hw1
  have hg : fitC ((epW (W.getD 7 0) + 1) % 32768) 0 0 := ⟨by omega, by omega, by decide, by decide, by decide, by decide⟩
  have g0 : 0 ≤ (goneW (W.getD 7 0)) := (pk_r hg false false).1
  have g1 : (goneW (W.getD 7 0)) < 18446744073709551616 := (pk_r hg false false).2
  have e5 : IntKind.i64.wrap (stb + 1) = stb + 1 := wi64 (by omega) (by omega)
  have e6 : IntKind.i64.wrap (stb + 1 + 1) = stb + 1 + 1 := wi64 (by omega) (by omega)
  refine gives_x hXSg (fn := Tryz.f11) rfl rfl rfl rfl fun ρ w => ?_
  refine sx hXSg [] 4000 rfl (by (simp [-List.getD_eq_getElem?_getD, -List.length_eq_zero_iff, conjP])) ?_
  refine sx hXSg [.F] 4000 rfl (by (simp [-List.getD_eq_getElem?_getD, -List.length_eq_zero_iff, conjP, addOP, e1])) ?_
  refine sx hXSg [.F] 4000 rfl (by (simp [-List.getD_eq_getElem?_getD, -List.length_eq_zero_iff, conjP, getH, HE.so, h1, h2, hl, hs, hw0, hw1, e2] <;> (first | omega | ((repeat' (refine And.intro ?_ ?_)) <;> (first | omega | exact decide_eq_false (by omega) | exact decide_eq_true (by omega)))))) ?_
  refine sx hXSg [.T, .T] 4000 rfl (by (simp [-List.getD_eq_getElem?_getD, -List.length_eq_zero_iff, conjP, getH, HE.so, h1, h2, hl, hw0, hw1, g0, g1] <;> (first | omega | ((repeat' (refine And.intro ?_ ?_)) <;> (first | omega | exact decide_eq_false (by omega) | exact decide_eq_true (by omega)))))) ?_
  refine sx hXSg [.T, .T] 4000 rfl (by (simp [-List.getD_eq_getElem?_getD, -List.length_eq_zero_iff, conjP, getH, HE.so, h1, h2, hl])) ?_
  (refine ss_end hXSg [0, 1, 2, 3, 4, 5, 6, 7, 8, 9] rfl rfl trivial rfl rfl rfl rfl (by (repeat' (first | exact rfl | exact trivial | exact sim_refl _ | refine And.intro ?_ ?_))) ?hh (by (repeat' (first | exact rfl | exact trivial | exact sim_refl _ | refine And.intro ?_ ?_))) (by (repeat' (first | exact rfl | exact trivial | exact sim_refl _ | refine And.intro ?_ ?_))); (case hh => simp only [e5, e6]; (repeat' (first | exact rfl | exact trivial | exact sim_refl _ | (simp; done) | refine And.intro ?_ ?_)); done))

set_option maxHeartbeats 4000000 in
theorem whoB001_fn (h1 : 1 ≤ R) (h2 : R ≤ 8) (hl : W.length = 21) (hs : 0 ≤ st) (hs' : st < 1000000) (ht : 0 ≤ stb) (ht' : stb < 1000000) (hw0 : 0 ≤ W.getD 7 0) (hw1 : W.getD 7 0 < 18446744073709551616) (hb : bkB s m false false = true) :
    Gives Tryz.prog 11 [.ptr 0 0, .agg [.int .i64 s, .int .i64 m]] [.obj (xO R 1 3 5 n), AOx 2 W st kd wd vl ch, WO W, .obj (rbO (.sbuf 4 1 0 21) stb kdb wdb vlb chb), wdE W, .obj (kO 6 7 8 9), .obj (cqO .nilptr .nilptr p0 q0 id0), .obj (cqO .nilptr .nilptr p1 q1 id1), .opq, .opq] (Is (.int .i64 (-1)) [.obj (xO R 1 3 5 n), AOx 2 ((W.set 7 (goneW (W.getD 7 0))).set 7 (bornW (goneW (W.getD 7 0)))) (st + 1 + 1) 2 7 (bornW (goneW (W.getD 7 0))) true, WO ((W.set 7 (goneW (W.getD 7 0))).set 7 (bornW (goneW (W.getD 7 0)))), .obj (rbO (.sbuf 4 1 0 21) (stb + 1 + 1) 2 7 (bornW (goneW (W.getD 7 0))) true), wdE ((W.set 7 (goneW (W.getD 7 0))).set 7 (bornW (goneW (W.getD 7 0)))), .obj (kO 6 7 8 9), .obj (cqO .nilptr .nilptr p0 q0 id0), .obj (cqO .nilptr .nilptr p1 q1 id1), .opq, .opq]) := by
  have e1 : ¬ ibits .and .i64 s 4 = 0 := fun q => by simp [bkB, q] at hb
  have e2 : ibits .and .i64 m 15 = 0 := by
    rcases Int.decEq (ibits .and .i64 m 15) 0 with q | q
    · simp [bkB, q] at hb
    · exact q
  have h7 : 7 < W.length := by omega
  have hf := fitW hw0 hw1
  have hg : fitC ((epW (W.getD 7 0) + 1) % 32768) 0 0 := ⟨by omega, by omega, by decide, by decide, by decide, by decide⟩
  have g0 : 0 ≤ (goneW (W.getD 7 0)) := (pk_r hg false false).1
  have g1 : (goneW (W.getD 7 0)) < 18446744073709551616 := (pk_r hg false false).2
  have e5 : IntKind.i64.wrap (stb + 1) = stb + 1 := wi64 (by omega) (by omega)
  have e6 : IntKind.i64.wrap (stb + 1 + 1) = stb + 1 + 1 := wi64 (by omega) (by omega)
  refine gives_x hXSg (fn := Tryz.f11) rfl rfl rfl rfl fun ρ w => ?_
  refine sx hXSg [] 4000 rfl (by (simp [-List.getD_eq_getElem?_getD, -List.length_eq_zero_iff, conjP])) ?_
  refine sx hXSg [.F] 4000 rfl (by (simp [-List.getD_eq_getElem?_getD, -List.length_eq_zero_iff, conjP, addOP, e1])) ?_
  refine sx hXSg [.F] 4000 rfl (by (simp [-List.getD_eq_getElem?_getD, -List.length_eq_zero_iff, conjP, getH, HE.so, h1, h2, hl, hs, hw0, hw1, e2, cellOff] <;> (first | omega | ((repeat' (refine And.intro ?_ ?_)) <;> (first | omega | exact decide_eq_false (by omega) | exact decide_eq_true (by omega)))))) ?_
  refine sx hXSg [.T, .T] 4000 rfl (by (simp [-List.getD_eq_getElem?_getD, -List.length_eq_zero_iff, conjP, getH, HE.so, h1, h2, hl, hw0, hw1, g0, g1, cellOff] <;> (first | omega | ((repeat' (refine And.intro ?_ ?_)) <;> (first | omega | exact decide_eq_false (by omega) | exact decide_eq_true (by omega)))))) ?_
  refine sx hXSg [.T, .T] 4000 rfl (by (simp [-List.getD_eq_getElem?_getD, -List.length_eq_zero_iff, conjP, getH, HE.so, h1, h2, hl, cellOff])) ?_
  (refine ss_end hXSg [0, 1, 2, 3, 4, 5, 6, 7, 8, 9] rfl rfl trivial rfl rfl rfl rfl (by (repeat' (first | exact rfl | exact trivial | exact sim_refl _ | refine And.intro ?_ ?_))) ?hh (by (repeat' (first | exact rfl | exact trivial | exact sim_refl _ | refine And.intro ?_ ?_))) (by (repeat' (first | exact rfl | exact trivial | exact sim_refl _ | refine And.intro ?_ ?_))); (case hh => simp only [e5, e6]; (repeat' (first | exact rfl | exact trivial | exact sim_refl _ | (simp; done) | refine And.intro ?_ ?_)); done))

set_option maxHeartbeats 4000000 in
theorem whoN01_fn (hb : bkB s m false s1.hd = false) : Gives Tryz.prog 11 [.ptr 0 0, .agg [.int .i64 s, .int .i64 m]] [.obj (xO R 1 2 3 n), .opq, .opq, .obj (kO 4 5 6 7), .obj (cqO .nilptr .nilptr p0 q0 id0), .obj (cqO (.ptr 8 0) .nilptr p1 q1 id1), .opq, .opq, .obj (wrO R s1.ep s1.nx s1.sn s1.fl 0 s1.tm .niliface 9 s1.l.length s1.i s1.hd), .opq] (Is (.int .i64 (a3 s)) [.obj (xO R 1 2 3 n), .opq, .opq, .obj (kO 4 5 6 7), .obj (cqO .nilptr .nilptr p0 q0 id0), .obj (cqO (.ptr 8 0) .nilptr p1 q1 id1), .opq, .opq, .obj (wrO R s1.ep s1.nx s1.sn s1.fl 0 s1.tm .niliface 9 s1.l.length s1.i s1.hd), .opq]) := by
  refine gives_x hXSg (fn := Tryz.f11) rfl rfl rfl rfl fun ρ w => ?_
  by_cases e1 : ibits .and .i64 s 4 = 0
  · refine sx hXSg [] 4000 rfl (by (simp [-List.getD_eq_getElem?_getD, -List.length_eq_zero_iff, conjP])) ?_
    refine sx hXSg [.T] 4000 rfl (by (simp [-List.getD_eq_getElem?_getD, -List.length_eq_zero_iff, conjP, addOP, e1])) ?_
    (exact ss_end hXSg [0, 1, 2, 3, 4, 5, 6, 7, 8, 9] rfl rfl trivial rfl rfl rfl rfl (by (repeat' (first | exact rfl | exact trivial | exact sim_refl _ | refine And.intro ?_ ?_))) (by (repeat' (first | exact rfl | exact trivial | exact sim_refl _ | refine And.intro ?_ ?_))) (by (repeat' (first | exact rfl | exact trivial | exact sim_refl _ | refine And.intro ?_ ?_))) (by (repeat' (first | exact rfl | exact trivial | exact sim_refl _ | refine And.intro ?_ ?_))))
  · by_cases e2 : ibits .and .i64 m 15 = 0
    · rcases e3 : s1.hd with _ | _
      · simp [bkB, e1, e2, e3] at hb
      · refine sx hXSg [] 4000 rfl (by (simp [-List.getD_eq_getElem?_getD, -List.length_eq_zero_iff, conjP])) ?_
        refine sx hXSg [.F] 4000 rfl (by (simp [-List.getD_eq_getElem?_getD, -List.length_eq_zero_iff, conjP, addOP, e1])) ?_
        refine sx hXSg [.F] 4000 rfl (by (simp [-List.getD_eq_getElem?_getD, -List.length_eq_zero_iff, conjP, e2])) ?_
        refine sx hXSg [.T] 4000 rfl (by (simp [-List.getD_eq_getElem?_getD, -List.length_eq_zero_iff, conjP, addOP])) ?_
        (exact ss_end hXSg [0, 1, 2, 3, 4, 5, 6, 7, 8, 9] rfl rfl trivial rfl rfl rfl rfl (by (repeat' (first | exact rfl | exact trivial | exact sim_refl _ | refine And.intro ?_ ?_))) (by (repeat' (first | exact rfl | exact trivial | exact sim_refl _ | refine And.intro ?_ ?_))) (by (repeat' (first | exact rfl | exact trivial | exact sim_refl _ | refine And.intro ?_ ?_))) (by (repeat' (first | exact rfl | exact trivial | exact sim_refl _ | refine And.intro ?_ ?_))))
    · refine sx hXSg [] 4000 rfl (by (simp [-List.getD_eq_getElem?_getD, -List.length_eq_zero_iff, conjP])) ?_
      refine sx hXSg [.F] 4000 rfl (by (simp [-List.getD_eq_getElem?_getD, -List.length_eq_zero_iff, conjP, addOP, e1])) ?_
      refine sx hXSg [.T] 4000 rfl (by (simp [-List.getD_eq_getElem?_getD, -List.length_eq_zero_iff, conjP, addOP, e2])) ?_
      (exact ss_end hXSg [0, 1, 2, 3, 4, 5, 6, 7, 8, 9] rfl rfl trivial rfl rfl rfl rfl (by (repeat' (first | exact rfl | exact trivial | exact sim_refl _ | refine And.intro ?_ ?_))) (by (repeat' (first | exact rfl | exact trivial | exact sim_refl _ | refine And.intro ?_ ?_))) (by (repeat' (first | exact rfl | exact trivial | exact sim_refl _ | refine And.intro ?_ ?_))) (by (repeat' (first | exact rfl | exact trivial | exact sim_refl _ | refine And.intro ?_ ?_))))

set_option maxHeartbeats 4000000 in
theorem whoB010_fn (h1 : 1 ≤ R) (h2 : R ≤ 8) (hl : W.length = 21) (hs : 0 ≤ st) (hs' : st < 1000000) (ht : 0 ≤ stb) (ht' : stb < 1000000) (hw0 : 0 ≤ W.getD 7 0) (hw1 : W.getD 7 0 < 18446744073709551616) (hb : bkB s m false s1.hd = true) :
    Gives Tryz.prog 11 [.ptr 0 0, .agg [.int .i64 s, .int .i64 m]] [.obj (xO R 1 3 5 n), AOx 2 W st kd wd vl ch, WO W, .obj (rbO (.slice 4 0 21 21) stb kdb wdb vlb chb), WO W, .obj (kO 6 7 8 9), .obj (cqO .nilptr .nilptr p0 q0 id0), .obj (cqO (.ptr 10 0) .nilptr p1 q1 id1), .opq, .opq, .obj (wrO R s1.ep s1.nx s1.sn s1.fl 0 s1.tm .niliface 11 s1.l.length s1.i s1.hd), .opq] (Is (.int .i64 (-1)) [.obj (xO R 1 3 5 n), AOx 2 ((W.set 7 (goneW (W.getD 7 0))).set 7 (bornW (goneW (W.getD 7 0)))) (st + 1 + 1) 2 7 (bornW (goneW (W.getD 7 0))) true, WO ((W.set 7 (goneW (W.getD 7 0))).set 7 (bornW (goneW (W.getD 7 0)))), .obj (rbO (.slice 4 0 21 21) (stb + 1 + 1) 2 7 (bornW (goneW (W.getD 7 0))) true), WO ((W.set 7 (goneW (W.getD 7 0))).set 7 (bornW (goneW (W.getD 7 0)))), .obj (kO 6 7 8 9), .obj (cqO .nilptr .nilptr p0 q0 id0), .obj (cqO (.ptr 10 0) .nilptr p1 q1 id1), .opq, .opq, .obj (wrO R s1.ep s1.nx s1.sn s1.fl 0 s1.tm .niliface 11 s1.l.length s1.i s1.hd), .opq]) := by
  have e1 : ¬ ibits .and .i64 s 4 = 0 := fun q => by simp [bkB, q] at hb
  have e2 : ibits .and .i64 m 15 = 0 := by
    rcases Int.decEq (ibits .and .i64 m 15) 0 with q | q
    · simp [bkB, q] at hb
    · exact q
  have e4 : s1.hd = false := by rcases q : s1.hd with _ | _ <;> simp [bkB, q] at hb ⊢
  have h7 : 7 < W.length := by omega
  have hf := fitW hw0 hw1
  have hg : fitC ((epW (W.getD 7 0) + 1) % 32768) 0 0 := ⟨by omega, by omega, by decide, by decide, by decide, by decide⟩
  have g0 : 0 ≤ (goneW (W.getD 7 0)) := (pk_r hg false false).1
  have g1 : (goneW (W.getD 7 0)) < 18446744073709551616 := (pk_r hg false false).2
  have e5 : IntKind.i64.wrap (stb + 1) = stb + 1 := wi64 (by omega) (by omega)
  have e6 : IntKind.i64.wrap (stb + 1 + 1) = stb + 1 + 1 := wi64 (by omega) (by omega)
  refine gives_x hXSg (fn := Tryz.f11) rfl rfl rfl rfl fun ρ w => ?_
  refine sx hXSg [] 4000 rfl (by (simp [-List.getD_eq_getElem?_getD, -List.length_eq_zero_iff, conjP])) ?_
  refine sx hXSg [.F] 4000 rfl (by (simp [-List.getD_eq_getElem?_getD, -List.length_eq_zero_iff, conjP, addOP, e1])) ?_
  refine sx hXSg [.F] 4000 rfl (by (simp [-List.getD_eq_getElem?_getD, -List.length_eq_zero_iff, conjP, e2])) ?_
  refine sx hXSg [.F] 4000 rfl (by (simp [-List.getD_eq_getElem?_getD, -List.length_eq_zero_iff, conjP, getH, HE.so, h1, h2, hl, hs, hw0, hw1, e4] <;> (first | omega | ((repeat' (refine And.intro ?_ ?_)) <;> (first | omega | exact decide_eq_false (by omega) | exact decide_eq_true (by omega)))))) ?_
  refine sx hXSg [.T, .T] 4000 rfl (by (simp [-List.getD_eq_getElem?_getD, -List.length_eq_zero_iff, conjP, getH, HE.so, h1, h2, hl, hw0, hw1, g0, g1] <;> (first | omega | ((repeat' (refine And.intro ?_ ?_)) <;> (first | omega | exact decide_eq_false (by omega) | exact decide_eq_true (by omega)))))) ?_
  refine sx hXSg [.T, .T] 4000 rfl (by (simp [-List.getD_eq_getElem?_getD, -List.length_eq_zero_iff, conjP, getH, HE.so, h1, h2, hl])) ?_
  (refine ss_end hXSg [0, 1, 2, 3, 4, 5, 6, 7, 8, 9, 10, 11] rfl rfl trivial rfl rfl rfl rfl (by (repeat' (first | exact rfl | exact trivial | exact sim_refl _ | refine And.intro ?_ ?_))) ?hh (by (repeat' (first | exact rfl | exact trivial | exact sim_refl _ | refine And.intro ?_ ?_))) (by (repeat' (first | exact rfl | exact trivial | exact sim_refl _ | refine And.intro ?_ ?_))); (case hh => simp only [e5, e6]; (repeat' (first | exact rfl | exact trivial | exact sim_refl _ | (simp; done) | refine And.intro ?_ ?_)); done))

set_option maxHeartbeats 4000000 in
theorem whoB011_fn (h1 : 1 ≤ R) (h2 : R ≤ 8) (hl : W.length = 21) (hs : 0 ≤ st) (hs' : st < 1000000) (ht : 0 ≤ stb) (ht' : stb < 1000000) (hw0 : 0 ≤ W.getD 7 0) (hw1 : W.getD 7 0 < 18446744073709551616) (hb : bkB s m false s1.hd = true) :
    Gives Tryz.prog 11 [.ptr 0 0, .agg [.int .i64 s, .int .i64 m]] [.obj (xO R 1 3 5 n), AOx 2 W st kd wd vl ch, WO W, .obj (rbO (.sbuf 4 1 0 21) stb kdb wdb vlb chb), wdE W, .obj (kO 6 7 8 9), .obj (cqO .nilptr .nilptr p0 q0 id0), .obj (cqO (.ptr 10 0) .nilptr p1 q1 id1), .opq, .opq, .obj (wrO R s1.ep s1.nx s1.sn s1.fl 0 s1.tm .niliface 11 s1.l.length s1.i s1.hd), .opq] (Is (.int .i64 (-1)) [.obj (xO R 1 3 5 n), AOx 2 ((W.set 7 (goneW (W.getD 7 0))).set 7 (bornW (goneW (W.getD 7 0)))) (st + 1 + 1) 2 7 (bornW (goneW (W.getD 7 0))) true, WO ((W.set 7 (goneW (W.getD 7 0))).set 7 (bornW (goneW (W.getD 7 0)))), .obj (rbO (.sbuf 4 1 0 21) (stb + 1 + 1) 2 7 (bornW (goneW (W.getD 7 0))) true), wdE ((W.set 7 (goneW (W.getD 7 0))).set 7 (bornW (goneW (W.getD 7 0)))), .obj (kO 6 7 8 9), .obj (cqO .nilptr .nilptr p0 q0 id0), .obj (cqO (.ptr 10 0) .nilptr p1 q1 id1), .opq, .opq, .obj (wrO R s1.ep s1.nx s1.sn s1.fl 0 s1.tm .niliface 11 s1.l.length s1.i s1.hd), .opq]) := by
  have e1 : ¬ ibits .and .i64 s 4 = 0 := fun q => by simp [bkB, q] at hb
  have e2 : ibits .and .i64 m 15 = 0 := by
    rcases Int.decEq (ibits .and .i64 m 15) 0 with q | q
    · simp [bkB, q] at hb
    · exact q
  have e4 : s1.hd = false := by rcases q : s1.hd with _ | _ <;> simp [bkB, q] at hb ⊢
  have h7 : 7 < W.length := by omega
  have hf := fitW hw0 hw1
  have hg : fitC ((epW (W.getD 7 0) + 1) % 32768) 0 0 := ⟨by omega, by omega, by decide, by decide, by decide, by decide⟩
  have g0 : 0 ≤ (goneW (W.getD 7 0)) := (pk_r hg false false).1
  have g1 : (goneW (W.getD 7 0)) < 18446744073709551616 := (pk_r hg false false).2
  have e5 : IntKind.i64.wrap (stb + 1) = stb + 1 := wi64 (by omega) (by omega)
  have e6 : IntKind.i64.wrap (stb + 1 + 1) = stb + 1 + 1 := wi64 (by omega) (by omega)
  refine gives_x hXSg (fn := Tryz.f11) rfl rfl rfl rfl fun ρ w => ?_
  refine sx hXSg [] 4000 rfl (by (simp [-List.getD_eq_getElem?_getD, -List.length_eq_zero_iff, conjP])) ?_
  refine sx hXSg [.F] 4000 rfl (by (simp [-List.getD_eq_getElem?_getD, -List.length_eq_zero_iff, conjP, addOP, e1])) ?_
  refine sx hXSg [.F] 4000 rfl (by (simp [-List.getD_eq_getElem?_getD, -List.length_eq_zero_iff, conjP, e2])) ?_
  refine sx hXSg [.F] 4000 rfl (by (simp [-List.getD_eq_getElem?_getD, -List.length_eq_zero_iff, conjP, getH, HE.so, h1, h2, hl, hs, hw0, hw1, e4, cellOff] <;> (first | omega | ((repeat' (refine And.intro ?_ ?_)) <;> (first | omega | exact decide_eq_false (by omega) | exact decide_eq_true (by omega)))))) ?_
  refine sx hXSg [.T, .T] 4000 rfl (by (simp [-List.getD_eq_getElem?_getD, -List.length_eq_zero_iff, conjP, getH, HE.so, h1, h2, hl, hw0, hw1, g0, g1, cellOff] <;> (first | omega | ((repeat' (refine And.intro ?_ ?_)) <;> (first | omega | exact decide_eq_false (by omega) | exact decide_eq_true (by omega)))))) ?_
  refine sx hXSg [.T, .T] 4000 rfl (by (simp [-List.getD_eq_getElem?_getD, -List.length_eq_zero_iff, conjP, getH, HE.so, h1, h2, hl, cellOff])) ?_
  (refine ss_end hXSg [0, 1, 2, 3, 4, 5, 6, 7, 8, 9, 10, 11] rfl rfl trivial rfl rfl rfl rfl (by (repeat' (first | exact rfl | exact trivial | exact sim_refl _ | refine And.intro ?_ ?_))) ?hh (by (repeat' (first | exact rfl | exact trivial | exact sim_refl _ | refine And.intro ?_ ?_))) (by (repeat' (first | exact rfl | exact trivial | exact sim_refl _ | refine And.intro ?_ ?_))); (case hh => simp only [e5, e6]; (repeat' (first | exact rfl | exact trivial | exact sim_refl _ | (simp; done) | refine And.intro ?_ ?_)); done))

set_option maxHeartbeats 4000000 in
theorem whoN10_fn (hb : bkB s m s0.hd false = false) : Gives Tryz.prog 11 [.ptr 0 0, .agg [.int .i64 s, .int .i64 m]] [.obj (xO R 1 2 3 n), .opq, .opq, .obj (kO 4 5 6 7), .obj (cqO (.ptr 8 0) .nilptr p0 q0 id0), .obj (cqO .nilptr .nilptr p1 q1 id1), .opq, .opq, .obj (wrO R s0.ep s0.nx s0.sn s0.fl 0 s0.tm .niliface 9 s0.l.length s0.i s0.hd), .opq] (Is (.int .i64 (a3 s)) [.obj (xO R 1 2 3 n), .opq, .opq, .obj (kO 4 5 6 7), .obj (cqO (.ptr 8 0) .nilptr p0 q0 id0), .obj (cqO .nilptr .nilptr p1 q1 id1), .opq, .opq, .obj (wrO R s0.ep s0.nx s0.sn s0.fl 0 s0.tm .niliface 9 s0.l.length s0.i s0.hd), .opq]) := by
  refine gives_x hXSg (fn := Tryz.f11) rfl rfl rfl rfl fun ρ w => ?_
  by_cases e1 : ibits .and .i64 s 4 = 0
  · refine sx hXSg [] 4000 rfl (by (simp [-List.getD_eq_getElem?_getD, -List.length_eq_zero_iff, conjP])) ?_
    refine sx hXSg [.T] 4000 rfl (by (simp [-List.getD_eq_getElem?_getD, -List.length_eq_zero_iff, conjP, addOP, e1])) ?_
    (exact ss_end hXSg [0, 1, 2, 3, 4, 5, 6, 7, 8, 9] rfl rfl trivial rfl rfl rfl rfl (by (repeat' (first | exact rfl | exact trivial | exact sim_refl _ | refine And.intro ?_ ?_))) (by (repeat' (first | exact rfl | exact trivial | exact sim_refl _ | refine And.intro ?_ ?_))) (by (repeat' (first | exact rfl | exact trivial | exact sim_refl _ | refine And.intro ?_ ?_))) (by (repeat' (first | exact rfl | exact trivial | exact sim_refl _ | refine And.intro ?_ ?_))))
  · by_cases e2 : ibits .and .i64 m 15 = 0
    · rcases e3 : s0.hd with _ | _
      · simp [bkB, e1, e2, e3] at hb
      · refine sx hXSg [] 4000 rfl (by (simp [-List.getD_eq_getElem?_getD, -List.length_eq_zero_iff, conjP])) ?_
        refine sx hXSg [.F] 4000 rfl (by (simp [-List.getD_eq_getElem?_getD, -List.length_eq_zero_iff, conjP, addOP, e1])) ?_
        refine sx hXSg [.F] 4000 rfl (by (simp [-List.getD_eq_getElem?_getD, -List.length_eq_zero_iff, conjP, e2])) ?_
        refine sx hXSg [.T] 4000 rfl (by (simp [-List.getD_eq_getElem?_getD, -List.length_eq_zero_iff, conjP, addOP])) ?_
        (exact ss_end hXSg [0, 1, 2, 3, 4, 5, 6, 7, 8, 9] rfl rfl trivial rfl rfl rfl rfl (by (repeat' (first | exact rfl | exact trivial | exact sim_refl _ | refine And.intro ?_ ?_))) (by (repeat' (first | exact rfl | exact trivial | exact sim_refl _ | refine And.intro ?_ ?_))) (by (repeat' (first | exact rfl | exact trivial | exact sim_refl _ | refine And.intro ?_ ?_))) (by (repeat' (first | exact rfl | exact trivial | exact sim_refl _ | refine And.intro ?_ ?_))))
    · refine sx hXSg [] 4000 rfl (by (simp [-List.getD_eq_getElem?_getD, -List.length_eq_zero_iff, conjP])) ?_
      refine sx hXSg [.F] 4000 rfl (by (simp [-List.getD_eq_getElem?_getD, -List.length_eq_zero_iff, conjP, addOP, e1])) ?_
      refine sx hXSg [.T] 4000 rfl (by (simp [-List.getD_eq_getElem?_getD, -List.length_eq_zero_iff, conjP, addOP, e2])) ?_
      (exact ss_end hXSg [0, 1, 2, 3, 4, 5, 6, 7, 8, 9] rfl rfl trivial rfl rfl rfl rfl (by (repeat' (first | exact rfl | exact trivial | exact sim_refl _ | refine And.intro ?_ ?_))) (by (repeat' (first | exact rfl | exact trivial | exact sim_refl _ | refine And.intro ?_ ?_))) (by (repeat' (first | exact rfl | exact trivial | exact sim_refl _ | refine And.intro ?_ ?_))) (by (repeat' (first | exact rfl | exact trivial | exact sim_refl _ | refine And.intro ?_ ?_))))

set_option maxHeartbeats 4000000 in
theorem whoB100_fn (h1 : 1 ≤ R) (h2 : R ≤ 8) (hl : W.length = 21) (hs : 0 ≤ st) (hs' : st < 1000000) (ht : 0 ≤ stb) (ht' : stb < 1000000) (hw0 : 0 ≤ W.getD 7 0) (hw1 : W.getD 7 0 < 18446744073709551616) (hb : bkB s m s0.hd false = true) :
    Gives Tryz.prog 11 [.ptr 0 0, .agg [.int .i64 s, .int .i64 m]] [.obj (xO R 1 3 5 n), AOx 2 W st kd wd vl ch, WO W, .obj (rbO (.slice 4 0 21 21) stb kdb wdb vlb chb), WO W, .obj (kO 6 7 8 9), .obj (cqO (.ptr 10 0) .nilptr p0 q0 id0), .obj (cqO .nilptr .nilptr p1 q1 id1), .opq, .opq, .obj (wrO R s0.ep s0.nx s0.sn s0.fl 0 s0.tm .niliface 11 s0.l.length s0.i s0.hd), .opq] (Is (.int .i64 (-1)) [.obj (xO R 1 3 5 n), AOx 2 ((W.set 7 (goneW (W.getD 7 0))).set 7 (bornW (goneW (W.getD 7 0)))) (st + 1 + 1) 2 7 (bornW (goneW (W.getD 7 0))) true, WO ((W.set 7 (goneW (W.getD 7 0))).set 7 (bornW (goneW (W.getD 7 0)))), .obj (rbO (.slice 4 0 21 21) (stb + 1 + 1) 2 7 (bornW (goneW (W.getD 7 0))) true), WO ((W.set 7 (goneW (W.getD 7 0))).set 7 (bornW (goneW (W.getD 7 0)))), .obj (kO 6 7 8 9), .obj (cqO (.ptr 10 0) .nilptr p0 q0 id0), .obj (cqO .nilptr .nilptr p1 q1 id1), .opq, .opq, .obj (wrO R s0.ep s0.nx s0.sn s0.fl 0 s0.tm .niliface 11 s0.l.length s0.i s0.hd), .opq]) := by
  have e1 : ¬ ibits .and .i64 s 4 = 0 := fun q => by simp [bkB, q] at hb
  have e2 : ibits .and .i64 m 15 = 0 := by
    rcases Int.decEq (ibits .and .i64 m 15) 0 with q | q
    · simp [bkB, q] at hb
    · exact q
  have e3 : s0.hd = false := by rcases q : s0.hd with _ | _ <;> simp [bkB, q] at hb ⊢
  have h7 : 7 < W.length := by omega
  have hf := fitW hw0 hw1
  have hg : fitC ((epW (W.getD 7 0) + 1) % 32768) 0 0 := ⟨by omega, by omega, by decide, by decide, by decide, by decide⟩
  have g0 : 0 ≤ (goneW (W.getD 7 0)) := (pk_r hg false false).1
  have g1 : (goneW (W.getD 7 0)) < 18446744073709551616 := (pk_r hg false false).2
  have e5 : IntKind.i64.wrap (stb + 1) = stb + 1 := wi64 (by omega) (by omega)
  have e6 : IntKind.i64.wrap (stb + 1 + 1) = stb + 1 + 1 := wi64 (by omega) (by omega)
  refine gives_x hXSg (fn := Tryz.f11) rfl rfl rfl rfl fun ρ w => ?_
  refine sx hXSg [] 4000 rfl (by (simp [-List.getD_eq_getElem?_getD, -List.length_eq_zero_iff, conjP])) ?_
  refine sx hXSg [.F] 4000 rfl (by (simp [-List.getD_eq_getElem?_getD, -List.length_eq_zero_iff, conjP, addOP, e1])) ?_
  refine sx hXSg [.F] 4000 rfl (by (simp [-List.getD_eq_getElem?_getD, -List.length_eq_zero_iff, conjP, e2])) ?_
  refine sx hXSg [.F] 4000 rfl (by (simp [-List.getD_eq_getElem?_getD, -List.length_eq_zero_iff, conjP, getH, HE.so, h1, h2, hl, hs, hw0, hw1, e3] <;> (first | omega | ((repeat' (refine And.intro ?_ ?_)) <;> (first | omega | exact decide_eq_false (by omega) | exact decide_eq_true (by omega)))))) ?_
  refine sx hXSg [.T, .T] 4000 rfl (by (simp [-List.getD_eq_getElem?_getD, -List.length_eq_zero_iff, conjP, getH, HE.so, h1, h2, hl, hw0, hw1, g0, g1] <;> (first | omega | ((repeat' (refine And.intro ?_ ?_)) <;> (first | omega | exact decide_eq_false (by omega) | exact decide_eq_true (by omega)))))) ?_
  refine sx hXSg [.T, .T] 4000 rfl (by (simp [-List.getD_eq_getElem?_getD, -List.length_eq_zero_iff, conjP, getH, HE.so, h1, h2, hl])) ?_
  (refine ss_end hXSg [0, 1, 2, 3, 4, 5, 6, 7, 8, 9, 10, 11] rfl rfl trivial rfl rfl rfl rfl (by (repeat' (first | exact rfl | exact trivial | exact sim_refl _ | refine And.intro ?_ ?_))) ?hh (by (repeat' (first | exact rfl | exact trivial | exact sim_refl _ | refine And.intro ?_ ?_))) (by (repeat' (first | exact rfl | exact trivial | exact sim_refl _ | refine And.intro ?_ ?_))); (case hh => simp only [e5, e6]; (repeat' (first | exact rfl | exact trivial | exact sim_refl _ | (simp; done) | refine And.intro ?_ ?_)); done))

set_option maxHeartbeats 4000000 in
theorem whoB101_fn (h1 : 1 ≤ R) (h2 : R ≤ 8) (hl : W.length = 21) (hs : 0 ≤ st) (hs' : st < 1000000) (ht : 0 ≤ stb) (ht' : stb < 1000000) (hw0 : 0 ≤ W.getD 7 0) (hw1 : W.getD 7 0 < 18446744073709551616) (hb : bkB s m s0.hd false = true) :
    Gives Tryz.prog 11 [.ptr 0 0, .agg [.int .i64 s, .int .i64 m]] [.obj (xO R 1 3 5 n), AOx 2 W st kd wd vl ch, WO W, .obj (rbO (.sbuf 4 1 0 21) stb kdb wdb vlb chb), wdE W, .obj (kO 6 7 8 9), .obj (cqO (.ptr 10 0) .nilptr p0 q0 id0), .obj (cqO .nilptr .nilptr p1 q1 id1), .opq, .opq, .obj (wrO R s0.ep s0.nx s0.sn s0.fl 0 s0.tm .niliface 11 s0.l.length s0.i s0.hd), .opq] (Is (.int .i64 (-1)) [.obj (xO R 1 3 5 n), AOx 2 ((W.set 7 (goneW (W.getD 7 0))).set 7 (bornW (goneW (W.getD 7 0)))) (st + 1 + 1) 2 7 (bornW (goneW (W.getD 7 0))) true, WO ((W.set 7 (goneW (W.getD 7 0))).set 7 (bornW (goneW (W.getD 7 0)))), .obj (rbO (.sbuf 4 1 0 21) (stb + 1 + 1) 2 7 (bornW (goneW (W.getD 7 0))) true), wdE ((W.set 7 (goneW (W.getD 7 0))).set 7 (bornW (goneW (W.getD 7 0)))), .obj (kO 6 7 8 9), .obj (cqO (.ptr 10 0) .nilptr p0 q0 id0), .obj (cqO .nilptr .nilptr p1 q1 id1), .opq, .opq, .obj (wrO R s0.ep s0.nx s0.sn s0.fl 0 s0.tm .niliface 11 s0.l.length s0.i s0.hd), .opq]) := by
  have e1 : ¬ ibits .and .i64 s 4 = 0 := fun q => by simp [bkB, q] at hb
  have e2 : ibits .and .i64 m 15 = 0 := by
    rcases Int.decEq (ibits .and .i64 m 15) 0 with q | q
    · simp [bkB, q] at hb
    · exact q
  have e3 : s0.hd = false := by rcases q : s0.hd with _ | _ <;> simp [bkB, q] at hb ⊢
  have h7 : 7 < W.length := by omega
  have hf := fitW hw0 hw1
  have hg : fitC ((epW (W.getD 7 0) + 1) % 32768) 0 0 := ⟨by omega, by omega, by decide, by decide, by decide, by decide⟩
  have g0 : 0 ≤ (goneW (W.getD 7 0)) := (pk_r hg false false).1
  have g1 : (goneW (W.getD 7 0)) < 18446744073709551616 := (pk_r hg false false).2
  have e5 : IntKind.i64.wrap (stb + 1) = stb + 1 := wi64 (by omega) (by omega)
  have e6 : IntKind.i64.wrap (stb + 1 + 1) = stb + 1 + 1 := wi64 (by omega) (by omega)
  refine gives_x hXSg (fn := Tryz.f11) rfl rfl rfl rfl fun ρ w => ?_
  refine sx hXSg [] 4000 rfl (by (simp [-List.getD_eq_getElem?_getD, -List.length_eq_zero_iff, conjP])) ?_
  refine sx hXSg [.F] 4000 rfl (by (simp [-List.getD_eq_getElem?_getD, -List.length_eq_zero_iff, conjP, addOP, e1])) ?_
  refine sx hXSg [.F] 4000 rfl (by (simp [-List.getD_eq_getElem?_getD, -List.length_eq_zero_iff, conjP, e2])) ?_
  refine sx hXSg [.F] 4000 rfl (by (simp [-List.getD_eq_getElem?_getD, -List.length_eq_zero_iff, conjP, getH, HE.so, h1, h2, hl, hs, hw0, hw1, e3, cellOff] <;> (first | omega | ((repeat' (refine And.intro ?_ ?_)) <;> (first | omega | exact decide_eq_false (by omega) | exact decide_eq_true (by omega)))))) ?_
  refine sx hXSg [.T, .T] 4000 rfl (by (simp [-List.getD_eq_getElem?_getD, -List.length_eq_zero_iff, conjP, getH, HE.so, h1, h2, hl, hw0, hw1, g0, g1, cellOff] <;> (first | omega | ((repeat' (refine And.intro ?_ ?_)) <;> (first | omega | exact decide_eq_false (by omega) | exact decide_eq_true (by omega)))))) ?_
  refine sx hXSg [.T, .T] 4000 rfl (by (simp [-List.getD_eq_getElem?_getD, -List.length_eq_zero_iff, conjP, getH, HE.so, h1, h2, hl, cellOff])) ?_
  (refine ss_end hXSg [0, 1, 2, 3, 4, 5, 6, 7, 8, 9, 10, 11] rfl rfl trivial rfl rfl rfl rfl (by (repeat' (first | exact rfl | exact trivial | exact sim_refl _ | refine And.intro ?_ ?_))) ?hh (by (repeat' (first | exact rfl | exact trivial | exact sim_refl _ | refine And.intro ?_ ?_))) (by (repeat' (first | exact rfl | exact trivial | exact sim_refl _ | refine And.intro ?_ ?_))); (case hh => simp only [e5, e6]; (repeat' (first | exact rfl | exact trivial | exact sim_refl _ | (simp; done) | refine And.intro ?_ ?_)); done))

set_option maxHeartbeats 4000000 in
theorem whoN11_fn (hb : bkB s m s0.hd s1.hd = false) : Gives Tryz.prog 11 [.ptr 0 0, .agg [.int .i64 s, .int .i64 m]] [.obj (xO R 1 2 3 n), .opq, .opq, .obj (kO 4 5 6 7), .obj (cqO (.ptr 8 0) .nilptr p0 q0 id0), .obj (cqO (.ptr 10 0) .nilptr p1 q1 id1), .opq, .opq, .obj (wrO R s0.ep s0.nx s0.sn s0.fl 0 s0.tm .niliface 9 s0.l.length s0.i s0.hd), .opq, .obj (wrO R s1.ep s1.nx s1.sn s1.fl 0 s1.tm .niliface 11 s1.l.length s1.i s1.hd), .opq] (Is (.int .i64 (a3 s)) [.obj (xO R 1 2 3 n), .opq, .opq, .obj (kO 4 5 6 7), .obj (cqO (.ptr 8 0) .nilptr p0 q0 id0), .obj (cqO (.ptr 10 0) .nilptr p1 q1 id1), .opq, .opq, .obj (wrO R s0.ep s0.nx s0.sn s0.fl 0 s0.tm .niliface 9 s0.l.length s0.i s0.hd), .opq, .obj (wrO R s1.ep s1.nx s1.sn s1.fl 0 s1.tm .niliface 11 s1.l.length s1.i s1.hd), .opq]) := by
  refine gives_x hXSg (fn := Tryz.f11) rfl rfl rfl rfl fun ρ w => ?_
  by_cases e1 : ibits .and .i64 s 4 = 0
  · refine sx hXSg [] 4000 rfl (by (simp [-List.getD_eq_getElem?_getD, -List.length_eq_zero_iff, conjP])) ?_
    refine sx hXSg [.T] 4000 rfl (by (simp [-List.getD_eq_getElem?_getD, -List.length_eq_zero_iff, conjP, addOP, e1])) ?_
    (exact ss_end hXSg [0, 1, 2, 3, 4, 5, 6, 7, 8, 9, 10, 11] rfl rfl trivial rfl rfl rfl rfl (by (repeat' (first | exact rfl | exact trivial | exact sim_refl _ | refine And.intro ?_ ?_))) (by (repeat' (first | exact rfl | exact trivial | exact sim_refl _ | refine And.intro ?_ ?_))) (by (repeat' (first | exact rfl | exact trivial | exact sim_refl _ | refine And.intro ?_ ?_))) (by (repeat' (first | exact rfl | exact trivial | exact sim_refl _ | refine And.intro ?_ ?_))))
  · by_cases e2 : ibits .and .i64 m 15 = 0
    · rcases e3 : s0.hd with _ | _
      · rcases e4 : s1.hd with _ | _
        · simp [bkB, e1, e2, e3, e4] at hb
        · refine sx hXSg [] 4000 rfl (by (simp [-List.getD_eq_getElem?_getD, -List.length_eq_zero_iff, conjP])) ?_
          refine sx hXSg [.F] 4000 rfl (by (simp [-List.getD_eq_getElem?_getD, -List.length_eq_zero_iff, conjP, addOP, e1])) ?_
          refine sx hXSg [.F] 4000 rfl (by (simp [-List.getD_eq_getElem?_getD, -List.length_eq_zero_iff, conjP, e2])) ?_
          refine sx hXSg [.F] 4000 rfl (by (simp [-List.getD_eq_getElem?_getD, -List.length_eq_zero_iff, conjP])) ?_
          refine sx hXSg [.T] 4000 rfl (by (simp [-List.getD_eq_getElem?_getD, -List.length_eq_zero_iff, conjP, addOP])) ?_
          (exact ss_end hXSg [0, 1, 2, 3, 4, 5, 6, 7, 8, 9, 10, 11] rfl rfl trivial rfl rfl rfl rfl (by (repeat' (first | exact rfl | exact trivial | exact sim_refl _ | refine And.intro ?_ ?_))) (by (repeat' (first | exact rfl | exact trivial | exact sim_refl _ | refine And.intro ?_ ?_))) (by (repeat' (first | exact rfl | exact trivial | exact sim_refl _ | refine And.intro ?_ ?_))) (by (repeat' (first | exact rfl | exact trivial | exact sim_refl _ | refine And.intro ?_ ?_))))
      · refine sx hXSg [] 4000 rfl (by (simp [-List.getD_eq_getElem?_getD, -List.length_eq_zero_iff, conjP])) ?_
        refine sx hXSg [.F] 4000 rfl (by (simp [-List.getD_eq_getElem?_getD, -List.length_eq_zero_iff, conjP, addOP, e1])) ?_
        refine sx hXSg [.F] 4000 rfl (by (simp [-List.getD_eq_getElem?_getD, -List.length_eq_zero_iff, conjP, e2])) ?_
        refine sx hXSg [.T] 4000 rfl (by (simp [-List.getD_eq_getElem?_getD, -List.length_eq_zero_iff, conjP, addOP])) ?_
        (exact ss_end hXSg [0, 1, 2, 3, 4, 5, 6, 7, 8, 9, 10, 11] rfl rfl trivial rfl rfl rfl rfl (by (repeat' (first | exact rfl | exact trivial | exact sim_refl _ | refine And.intro ?_ ?_))) (by (repeat' (first | exact rfl | exact trivial | exact sim_refl _ | refine And.intro ?_ ?_))) (by (repeat' (first | exact rfl | exact trivial | exact sim_refl _ | refine And.intro ?_ ?_))) (by (repeat' (first | exact rfl | exact trivial | exact sim_refl _ | refine And.intro ?_ ?_))))
    · refine sx hXSg [] 4000 rfl (by (simp [-List.getD_eq_getElem?_getD, -List.length_eq_zero_iff, conjP])) ?_
      refine sx hXSg [.F] 4000 rfl (by (simp [-List.getD_eq_getElem?_getD, -List.length_eq_zero_iff, conjP, addOP, e1])) ?_
      refine sx hXSg [.T] 4000 rfl (by (simp [-List.getD_eq_getElem?_getD, -List.length_eq_zero_iff, conjP, addOP, e2])) ?_
      (exact ss_end hXSg [0, 1, 2, 3, 4, 5, 6, 7, 8, 9, 10, 11] rfl rfl trivial rfl rfl rfl rfl (by (repeat' (first | exact rfl | exact trivial | exact sim_refl _ | refine And.intro ?_ ?_))) (by (repeat' (first | exact rfl | exact trivial | exact sim_refl _ | refine And.intro ?_ ?_))) (by (repeat' (first | exact rfl | exact trivial | exact sim_refl _ | refine And.intro ?_ ?_))) (by (repeat' (first | exact rfl | exact trivial | exact sim_refl _ | refine And.intro ?_ ?_))))

set_option maxHeartbeats 4000000 in
theorem whoB110_fn (h1 : 1 ≤ R) (h2 : R ≤ 8) (hl : W.length = 21) (hs : 0 ≤ st) (hs' : st < 1000000) (ht : 0 ≤ stb) (ht' : stb < 1000000) (hw0 : 0 ≤ W.getD 7 0) (hw1 : W.getD 7 0 < 18446744073709551616) (hb : bkB s m s0.hd s1.hd = true) :
    Gives Tryz.prog 11 [.ptr 0 0, .agg [.int .i64 s, .int .i64 m]] [.obj (xO R 1 3 5 n), AOx 2 W st kd wd vl ch, WO W, .obj (rbO (.slice 4 0 21 21) stb kdb wdb vlb chb), WO W, .obj (kO 6 7 8 9), .obj (cqO (.ptr 10 0) .nilptr p0 q0 id0), .obj (cqO (.ptr 12 0) .nilptr p1 q1 id1), .opq, .opq, .obj (wrO R s0.ep s0.nx s0.sn s0.fl 0 s0.tm .niliface 11 s0.l.length s0.i s0.hd), .opq, .obj (wrO R s1.ep s1.nx s1.sn s1.fl 0 s1.tm .niliface 13 s1.l.length s1.i s1.hd), .opq] (Is (.int .i64 (-1)) [.obj (xO R 1 3 5 n), AOx 2 ((W.set 7 (goneW (W.getD 7 0))).set 7 (bornW (goneW (W.getD 7 0)))) (st + 1 + 1) 2 7 (bornW (goneW (W.getD 7 0))) true, WO ((W.set 7 (goneW (W.getD 7 0))).set 7 (bornW (goneW (W.getD 7 0)))), .obj (rbO (.slice 4 0 21 21) (stb + 1 + 1) 2 7 (bornW (goneW (W.getD 7 0))) true), WO ((W.set 7 (goneW (W.getD 7 0))).set 7 (bornW (goneW (W.getD 7 0)))), .obj (kO 6 7 8 9), .obj (cqO (.ptr 10 0) .nilptr p0 q0 id0), .obj (cqO (.ptr 12 0) .nilptr p1 q1 id1), .opq, .opq, .obj (wrO R s0.ep s0.nx s0.sn s0.fl 0 s0.tm .niliface 11 s0.l.length s0.i s0.hd), .opq, .obj (wrO R s1.ep s1.nx s1.sn s1.fl 0 s1.tm .niliface 13 s1.l.length s1.i s1.hd), .opq]) := by
  have e1 : ¬ ibits .and .i64 s 4 = 0 := fun q => by simp [bkB, q] at hb
  have e2 : ibits .and .i64 m 15 = 0 := by
    rcases Int.decEq (ibits .and .i64 m 15) 0 with q | q
    · simp [bkB, q] at hb
    · exact q
  have e3 : s0.hd = false := by rcases q : s0.hd with _ | _ <;> simp [bkB, q] at hb ⊢
  have e4 : s1.hd = false := by rcases q : s1.hd with _ | _ <;> simp [bkB, q] at hb ⊢
  have h7 : 7 < W.length := by omega
  have hf := fitW hw0 hw1
  have hg : fitC ((epW (W.getD 7 0) + 1) % 32768) 0 0 := ⟨by omega, by omega, by decide, by decide, by decide, by decide⟩
  have g0 : 0 ≤ (goneW (W.getD 7 0)) := (pk_r hg false false).1
  have g1 : (goneW (W.getD 7 0)) < 18446744073709551616 := (pk_r hg false false).2
  have e5 : IntKind.i64.wrap (stb + 1) = stb + 1 := wi64 (by omega) (by omega)
  have e6 : IntKind.i64.wrap (stb + 1 + 1) = stb + 1 + 1 := wi64 (by omega) (by omega)
  refine gives_x hXSg (fn := Tryz.f11) rfl rfl rfl rfl fun ρ w => ?_
  refine sx hXSg [] 4000 rfl (by (simp [-List.getD_eq_getElem?_getD, -List.length_eq_zero_iff, conjP])) ?_
  refine sx hXSg [.F] 4000 rfl (by (simp [-List.getD_eq_getElem?_getD, -List.length_eq_zero_iff, conjP, addOP, e1])) ?_
  refine sx hXSg [.F] 4000 rfl (by (simp [-List.getD_eq_getElem?_getD, -List.length_eq_zero_iff, conjP, e2])) ?_
  refine sx hXSg [.F] 4000 rfl (by (simp [-List.getD_eq_getElem?_getD, -List.length_eq_zero_iff, conjP, e3])) ?_
  refine sx hXSg [.F] 4000 rfl (by (simp [-List.getD_eq_getElem?_getD, -List.length_eq_zero_iff, conjP, getH, HE.so, h1, h2, hl, hs, hw0, hw1, e4] <;> (first | omega | ((repeat' (refine And.intro ?_ ?_)) <;> (first | omega | exact decide_eq_false (by omega) | exact decide_eq_true (by omega)))))) ?_
  refine sx hXSg [.T, .T] 4000 rfl (by (simp [-List.getD_eq_getElem?_getD, -List.length_eq_zero_iff, conjP, getH, HE.so, h1, h2, hl, hw0, hw1, g0, g1] <;> (first | omega | ((repeat' (refine And.intro ?_ ?_)) <;> (first | omega | exact decide_eq_false (by omega) | exact decide_eq_true (by omega)))))) ?_
  refine sx hXSg [.T, .T] 4000 rfl (by (simp [-List.getD_eq_getElem?_getD, -List.length_eq_zero_iff, conjP, getH, HE.so, h1, h2, hl])) ?_
  (refine ss_end hXSg [0, 1, 2, 3, 4, 5, 6, 7, 8, 9, 10, 11, 12, 13] rfl rfl trivial rfl rfl rfl rfl (by (repeat' (first | exact rfl | exact trivial | exact sim_refl _ | refine And.intro ?_ ?_))) ?hh (by (repeat' (first | exact rfl | exact trivial | exact sim_refl _ | refine And.intro ?_ ?_))) (by (repeat' (first | exact rfl | exact trivial | exact sim_refl _ | refine And.intro ?_ ?_))); (case hh => simp only [e5, e6]; (repeat' (first | exact rfl | exact trivial | exact sim_refl _ | (simp; done) | refine And.intro ?_ ?_)); done))

set_option maxHeartbeats 4000000 in
theorem whoB111_fn (h1 : 1 ≤ R) (h2 : R ≤ 8) (hl : W.length = 21) (hs : 0 ≤ st) (hs' : st < 1000000) (ht : 0 ≤ stb) (ht' : stb < 1000000) (hw0 : 0 ≤ W.getD 7 0) (hw1 : W.getD 7 0 < 18446744073709551616) (hb : bkB s m s0.hd s1.hd = true) :
    Gives Tryz.prog 11 [.ptr 0 0, .agg [.int .i64 s, .int .i64 m]] [.obj (xO R 1 3 5 n), AOx 2 W st kd wd vl ch, WO W, .obj (rbO (.sbuf 4 1 0 21) stb kdb wdb vlb chb), wdE W, .obj (kO 6 7 8 9), .obj (cqO (.ptr 10 0) .nilptr p0 q0 id0), .obj (cqO (.ptr 12 0) .nilptr p1 q1 id1), .opq, .opq, .obj (wrO R s0.ep s0.nx s0.sn s0.fl 0 s0.tm .niliface 11 s0.l.length s0.i s0.hd), .opq, .obj (wrO R s1.ep s1.nx s1.sn s1.fl 0 s1.tm .niliface 13 s1.l.length s1.i s1.hd), .opq] (Is (.int .i64 (-1)) [.obj (xO R 1 3 5 n), AOx 2 ((W.set 7 (goneW (W.getD 7 0))).set 7 (bornW (goneW (W.getD 7 0)))) (st + 1 + 1) 2 7 (bornW (goneW (W.getD 7 0))) true, WO ((W.set 7 (goneW (W.getD 7 0))).set 7 (bornW (goneW (W.getD 7 0)))), .obj (rbO (.sbuf 4 1 0 21) (stb + 1 + 1) 2 7 (bornW (goneW (W.getD 7 0))) true), wdE ((W.set 7 (goneW (W.getD 7 0))).set 7 (bornW (goneW (W.getD 7 0)))), .obj (kO 6 7 8 9), .obj (cqO (.ptr 10 0) .nilptr p0 q0 id0), .obj (cqO (.ptr 12 0) .nilptr p1 q1 id1), .opq, .opq, .obj (wrO R s0.ep s0.nx s0.sn s0.fl 0 s0.tm .niliface 11 s0.l.length s0.i s0.hd), .opq, .obj (wrO R s1.ep s1.nx s1.sn s1.fl 0 s1.tm .niliface 13 s1.l.length s1.i s1.hd), .opq]) := by
  have e1 : ¬ ibits .and .i64 s 4 = 0 := fun q => by simp [bkB, q] at hb
  have e2 : ibits .and .i64 m 15 = 0 := by
    rcases Int.decEq (ibits .and .i64 m 15) 0 with q | q
    · simp [bkB, q] at hb
    · exact q
  have e3 : s0.hd = false := by rcases q : s0.hd with _ | _ <;> simp [bkB, q] at hb ⊢
  have e4 : s1.hd = false := by rcases q : s1.hd with _ | _ <;> simp [bkB, q] at hb ⊢
  have h7 : 7 < W.length := by omega
  have hf := fitW hw0 hw1
  have hg : fitC ((epW (W.getD 7 0) + 1) % 32768) 0 0 := ⟨by omega, by omega, by decide, by decide, by decide, by decide⟩
  have g0 : 0 ≤ (goneW (W.getD 7 0)) := (pk_r hg false false).1
  have g1 : (goneW (W.getD 7 0)) < 18446744073709551616 := (pk_r hg false false).2
  have e5 : IntKind.i64.wrap (stb + 1) = stb + 1 := wi64 (by omega) (by omega)
  have e6 : IntKind.i64.wrap (stb + 1 + 1) = stb + 1 + 1 := wi64 (by omega) (by omega)
  refine gives_x hXSg (fn := Tryz.f11) rfl rfl rfl rfl fun ρ w => ?_
  refine sx hXSg [] 4000 rfl (by (simp [-List.getD_eq_getElem?_getD, -List.length_eq_zero_iff, conjP])) ?_
  refine sx hXSg [.F] 4000 rfl (by (simp [-List.getD_eq_getElem?_getD, -List.length_eq_zero_iff, conjP, addOP, e1])) ?_
  refine sx hXSg [.F] 4000 rfl (by (simp [-List.getD_eq_getElem?_getD, -List.length_eq_zero_iff, conjP, e2])) ?_
  refine sx hXSg [.F] 4000 rfl (by (simp [-List.getD_eq_getElem?_getD, -List.length_eq_zero_iff, conjP, e3])) ?_
  refine sx hXSg [.F] 4000 rfl (by (simp [-List.getD_eq_getElem?_getD, -List.length_eq_zero_iff, conjP, getH, HE.so, h1, h2, hl, hs, hw0, hw1, e4, cellOff] <;> (first | omega | ((repeat' (refine And.intro ?_ ?_)) <;> (first | omega | exact decide_eq_false (by omega) | exact decide_eq_true (by omega)))))) ?_
  refine sx hXSg [.T, .T] 4000 rfl (by (simp [-List.getD_eq_getElem?_getD, -List.length_eq_zero_iff, conjP, getH, HE.so, h1, h2, hl, hw0, hw1, g0, g1, cellOff] <;> (first | omega | ((repeat' (refine And.intro ?_ ?_)) <;> (first | omega | exact decide_eq_false (by omega) | exact decide_eq_true (by omega)))))) ?_
  refine sx hXSg [.T, .T] 4000 rfl (by (simp [-List.getD_eq_getElem?_getD, -List.length_eq_zero_iff, conjP, getH, HE.so, h1, h2, hl, cellOff])) ?_
  (refine ss_end hXSg [0, 1, 2, 3, 4, 5, 6, 7, 8, 9, 10, 11, 12, 13] rfl rfl trivial rfl rfl rfl rfl (by (repeat' (first | exact rfl | exact trivial | exact sim_refl _ | refine And.intro ?_ ?_))) ?hh (by (repeat' (first | exact rfl | exact trivial | exact sim_refl _ | refine And.intro ?_ ?_))) (by (repeat' (first | exact rfl | exact trivial | exact sim_refl _ | refine And.intro ?_ ?_))); (case hh => simp only [e5, e6]; (repeat' (first | exact rfl | exact trivial | exact sim_refl _ | (simp; done) | refine And.intro ?_ ?_)); done))

end
end Go.Proofs.YtmghcelohnlceaaGreatDoor
