/- A client's step, of the program's run and of the document's: as one contract. -/
import Derived.Test.YtkkddjchkkaagaaGreatDoorDocAll
import Derived.Test.YtkkddjchkkaagaaGreatDoorAsVar
import Derived.Test.YtkkddjchkkaagaaGreatDoorHyc
namespace Go.Proofs.YtkkddjchkkaagaaGreatDoor
open Go Go.Hx
set_option maxRecDepth 8000
theorem raP_get {H : List HE} {ha hw : Nat} {W : List Int} {st kd wd vl : Int} {ch : Bool} {ob : List Prop} (hp : raP H ha = some (hw, ⟨W, st, kd, wd, vl, ch⟩, ob)) (hob : AllP ob) :
    getH H ha = some (.cells [.slice hw 0 W.length W.length, .int .i64 st, .int .i64 kd, .int .i64 wd, .int .u64 vl, .bool ch, .ff, .int .i64 0] 63) ∧ getH H hw = some (.ints .u64 W 52) ∧ nodupN [ha, hw] = true := by
  unfold raP at hp
  split at hp
  · rename_i hga
    split at hp
    · rename_i hgw hn
      simp only [Option.some.injEq, Prod.mk.injEq] at hp
      obtain ⟨rfl, h2, rfl⟩ := hp
      simp only [Ar.mk.injEq] at h2
      obtain ⟨rfl, rfl, rfl, rfl, rfl, rfl⟩ := h2
      have l1 := hob _ (List.mem_cons_self ..)
      have l2 := hob _ (List.mem_cons_of_mem _ (List.mem_cons_self ..))
      subst l1; subst l2
      exact ⟨hga, hgw, hn⟩
    · simp at hp
  · simp at hp
theorem ren_drC {T R : Int} {s : TS} {dp : Int} {σ : Nat → Nat} : (drC T R s dp).ren σ = drC T R s dp := rfl
/-- The document's step, as a row; dn: it is done; dp: what becomes of its place. -/
def dStS (T : Nat) (R : Int) (start : Nat) (s : TS) (r : TR) (dp : Int) : Hx.Spec := fun args H => match args with
  | [.ptr h 0, .ptr hb 0] => match getH H h, raP H hb with
    | some o, some (hw, ⟨W, st, kd, wd, vl, ch⟩, ob) => match nodupN [h, hb, hw] with
      | true => some ((o = drC (T : Int) R s (dpl T start s)) :: (Dtp T R start s W st kd wd vl ch r (dpl T start s) dp) :: ob, .bool (decide (r.s.ph = 0)),
          (((H.set h (.obj (drC (T : Int) R r.s dp))).set hb (ROx hw r.W (st + 1) r.kd r.wd r.vl r.ch)).set hw (WO r.W)))
      | _ => none
    | _, _ => none
  | _ => none
theorem dStS_ok {T : Nat} {R : Int} {start : Nat} {s : TS} {r : TR} {dp : Int} {args : List SV} {H : List HE} {ob : List Prop} {V : SV} {L : List HE} (hs : dStS T R start s r dp args H = some (ob, V, L)) (ho : AllP ob) : Gives Tryz.prog 131 args H (Is V L) := by
  unfold dStS at hs
  split at hs
  case h_2 => simp at hs
  rename_i _ h hb
  split at hs
  case h_2 => simp at hs
  rename_i _ _ o hw W st kd wd vl ch ob' hg hp
  split at hs
  case h_2 => simp at hs
  rename_i _ hnd
  simp only [Option.some.injEq, Prod.mk.injEq] at hs
  obtain ⟨rfl, rfl, rfl⟩ := hs
  have o1 := ho _ (List.mem_cons_self ..)
  have o2 := ho _ (List.mem_cons_of_mem _ (List.mem_cons_self ..))
  obtain ⟨g1, g2, g3⟩ := raP_get hp (fun q hq => ho q (List.mem_cons_of_mem _ (List.mem_cons_of_mem _ hq)))
  rw [o1] at hg
  exact frame3n (H := H) (h0 := h) (h1 := hb) (h2 := hw) (ags := [.ptr h 0, .ptr hb 0]) ⟨_, hTE⟩ o2 rfl rfl rfl hnd hg g1 g2 rfl rfl rfl rfl
/-- Topics are compared part by part. -/
def etT : Nat → Option (List (Option IntKind))
  | 25 => some [some .i64, some .i64, none]
  | _ => none
theorem etT_ok : ∀ t ks, etT t = some ks → EqOk Tryz.prog t ks := by
  intro t ks h
  unfold etT at h
  split at h
  · simp at h; subst h
    exact eqOk_of (by kernel_rfl) (by kernel_rfl)
  · simp at h
structure SP where
  (T : Nat) (R : Int) (sf : Nat) (dp : Int) (s : TS) (r : TR)
def ctTf0 (p : SP) : Nat → Option Hx.Spec
  | 131 => some (dStS p.T p.R p.sf p.s p.r p.dp)
  | 55 => some (tStS false p.T p.R p.sf p.s p.r)
  | 56 => some (tStS true p.T p.R p.sf p.s p.r)
  | 18 => some (topS)
  | _ => none
theorem ctTf0_ok (p : SP) : ∀ f s args H ob V L, ctTf0 p f = some s → s args H = some (ob, V, L) → AllP ob → Gives Tryz.prog f args H (Is V L) := by
  intro f s args H ob V L h hs ho
  unfold ctTf0 at h
  split at h
  · simp at h; subst h; exact dStS_ok hs ho
  · simp at h; subst h; exact tStS_ok hs ho
  · simp at h; subst h; exact tStS_ok hs ho
  · simp at h; subst h; exact topS_ok hs ho
  · simp at h
noncomputable def XTf (p : SP) : Tabs := tabs tr ft xt etT (ctTf0 p) 0
theorem hXTf (p : SP) : TOk Tryz.prog (XTf p) := ⟨hTE, hFT, ctTf0_ok p, hXT, fun t ks h => etT_ok t ks h, mixed⟩
theorem nx_some {rm : Bool} {ph a b : Nat} (h : ph ≠ 0) : (∃ n, nxV rm ph a b = .func (Fn.func n) [.ptr a 0] []) ∨ (∃ n, nxV rm ph a b = .func (Fn.func n) [.ptr b 0] []) := by
  unfold nxV
  split
  · exact absurd rfl h
  all_goals (first | exact .inr ⟨_, rfl⟩ | (cases rm <;> exact .inl ⟨_, rfl⟩))
theorem clF {P : Prop} (h : P := by repeat' (first | exact rfl | exact trivial | exact sim_refl _ | exact sim_erV | exact okP_erV | assumption | refine And.intro ?_ ?_)) : P := h
def pcO (rm : Bool) (k : Int) : SO := .cells [if rm then .nilptr else .ptr 2 0, if rm then .ptr 2 0 else .nilptr, .ptr 3 0, .int .i64 k] 96
section
variable {T : Nat} {R : Int} {start : Nat} {W : List Int} {st kd wd vl : Int} {ch : Bool} {k dp' : Int}

set_option maxHeartbeats 8000000 in
theorem stnc {lg : Bool} {key : Int} {ph : Nat} {seq : Int} {j0 : Nat} {fd : Int} {hd : Bool} {tm er pl sn fl bk ep tp : Int} {tl : Bool} {lg' : Bool} {key' : Int} {ph' : Nat} {seq' : Int} {j' : Nat} {fd' : Int} {hd' : Bool} {tm' er' pl' sn' fl' bk' ep' tp' : Int} {tl' : Bool} {W' : List Int} {kd' wd' vl' : Int} {ch' : Bool}
    (P : TPre T R start ⟨false, lg, key, ph, seq, j0, fd, hd, tm, er, pl, sn, fl, bk, ep, tp, tl⟩ W st) (hst : tStep T R start ⟨false, lg, key, ph, seq, j0, fd, hd, tm, er, pl, sn, fl, bk, ep, tp, tl⟩ W st = ⟨⟨false, lg', key', ph', seq', j', fd', hd', tm', er', pl', sn', fl', bk', ep', tp', tl'⟩, W', kd', wd', vl', ch'⟩) (hD : Dtp T R start ⟨false, lg, key, ph, seq, j0, fd, hd, tm, er, pl, sn, fl, bk, ep, tp, tl⟩ W st kd wd vl ch ⟨⟨false, lg', key', ph', seq', j', fd', hd', tm', er', pl', sn', fl', bk', ep', tp', tl'⟩, W', kd', wd', vl', ch'⟩ (dpl T start ⟨false, lg, key, ph, seq, j0, fd, hd, tm, er, pl, sn, fl, bk, ep, tp, tl⟩) dp') (e0 : ¬ ph' = 0) :
    Gives Tryz.prog 71 [.ptr 0 0, .ptr 4 0, .ptr 6 0] [.obj (pcO false k), .obj (hoC (T : Int) R 2 1 ⟨false, lg, key, ph, seq, j0, fd, hd, tm, er, pl, sn, fl, bk, ep, tp, tl⟩), .obj (ruC 1 ⟨false, lg, key, ph, seq, j0, fd, hd, tm, er, pl, sn, fl, bk, ep, tp, tl⟩), .obj (drC (T : Int) R ⟨false, lg, key, ph, seq, j0, fd, hd, tm, er, pl, sn, fl, bk, ep, tp, tl⟩ (dpl T start ⟨false, lg, key, ph, seq, j0, fd, hd, tm, er, pl, sn, fl, bk, ep, tp, tl⟩)), AOx 5 W st kd wd vl ch, WO W, ROx 7 W st kd wd vl ch, WO W, pinE RTV]
      (Is .tt [.obj (pcO false k), .obj (hoC (T : Int) R 2 1 ⟨false, lg', key', ph', seq', j', fd', hd', tm', er', pl', sn', fl', bk', ep', tp', tl'⟩), .obj (ruC 1 ⟨false, lg', key', ph', seq', j', fd', hd', tm', er', pl', sn', fl', bk', ep', tp', tl'⟩), .obj (drC (T : Int) R ⟨false, lg', key', ph', seq', j', fd', hd', tm', er', pl', sn', fl', bk', ep', tp', tl'⟩ dp'), AOx 5 W' (st + 1) kd' wd' vl' ch', WO W', ROx 7 W' (st + 1) kd' wd' vl' ch', WO W', pinE RTV]) := by
  have hX := hXTf ⟨T, R, start, dp', ⟨false, lg, key, ph, seq, j0, fd, hd, tm, er, pl, sn, fl, bk, ep, tp, tl⟩, ⟨⟨false, lg', key', ph', seq', j', fd', hd', tm', er', pl', sn', fl', bk', ep', tp', tl'⟩, W', kd', wd', vl', ch'⟩⟩
  refine gives_x hX (fn := Tryz.f71) rfl rfl rfl rfl fun ρ w => ?_
  dsimp only [pcO, if_true]
  rcases nx_some (rm := false) (a := 2) (b := 1) e0 with ⟨n, hn⟩ | ⟨n, hn⟩
  · refine sxb hX [.r 4] [] 4000 rfl (by (simp [-List.getD_eq_getElem?_getD, -List.length_eq_zero_iff, conjP, P, hst, hD, ruC, cond_false])) ?_
    dsimp only [hoC]
    rw [hn]
    rcases hd' with _ | _
    · refine sx hX [] 4000 rfl (by (simp [-List.getD_eq_getElem?_getD, -List.length_eq_zero_iff, conjP])) ?_
      refine sx hX [.F] 4000 rfl (by (simp [-List.getD_eq_getElem?_getD, -List.length_eq_zero_iff, conjP, addOP])) ?_
      refine sx hX [.K, .K, .K, .F, .K, .K, .K, .F] 4000 rfl (by (simp [-List.getD_eq_getElem?_getD, -List.length_eq_zero_iff, conjP, getH, HE.so, e0])) ?_
      refine sx hX [.F] 4000 rfl (by (simp [-List.getD_eq_getElem?_getD, -List.length_eq_zero_iff, conjP, addOP])) ?_
      refine sx hX [.T] 4000 rfl (by (simp [-List.getD_eq_getElem?_getD, -List.length_eq_zero_iff, conjP, e0])) ?_
      refine sx hX [.T] 4000 rfl (by (simp [-List.getD_eq_getElem?_getD, -List.length_eq_zero_iff, conjP, addOP])) ?_
      refine sx hX [.T] 4000 rfl (by (simp [-List.getD_eq_getElem?_getD, -List.length_eq_zero_iff, conjP, addOP])) ?_
      (refine ss_end hX [0, 1, 2, 3, 4, 5, 6, 7, 8] rfl rfl trivial rfl rfl rfl rfl ?hv ?hh ?hk ?ho; (case hv => exact clF); (case hh => (try simp only [hoC, hn]); exact clF); (case hk => exact clF); (case ho => exact clF))
    · refine sx hX [] 4000 rfl (by (simp [-List.getD_eq_getElem?_getD, -List.length_eq_zero_iff, conjP])) ?_
      refine sx hX [.F] 4000 rfl (by (simp [-List.getD_eq_getElem?_getD, -List.length_eq_zero_iff, conjP, addOP])) ?_
      refine sx hX [.K, .K, .K, .F, .K, .K, .K, .F] 4000 rfl (by (simp [-List.getD_eq_getElem?_getD, -List.length_eq_zero_iff, conjP, getH, HE.so, e0])) ?_
      refine sx hX [.F] 4000 rfl (by (simp [-List.getD_eq_getElem?_getD, -List.length_eq_zero_iff, conjP, addOP])) ?_
      refine sx hX [.T] 4000 rfl (by (simp [-List.getD_eq_getElem?_getD, -List.length_eq_zero_iff, conjP, e0])) ?_
      refine sx hX [.T] 4000 rfl (by (simp [-List.getD_eq_getElem?_getD, -List.length_eq_zero_iff, conjP, addOP])) ?_
      refine sx hX [.T] 4000 rfl (by (simp [-List.getD_eq_getElem?_getD, -List.length_eq_zero_iff, conjP, addOP])) ?_
      (refine ss_end hX [0, 1, 2, 3, 4, 5, 6, 7, 8] rfl rfl trivial rfl rfl rfl rfl ?hv ?hh ?hk ?ho; (case hv => exact clF); (case hh => (try simp only [hoC, hn]); exact clF); (case hk => exact clF); (case ho => exact clF))
  · refine sxb hX [.r 4] [] 4000 rfl (by (simp [-List.getD_eq_getElem?_getD, -List.length_eq_zero_iff, conjP, P, hst, hD, ruC, cond_false])) ?_
    dsimp only [hoC]
    rw [hn]
    rcases hd' with _ | _
    · refine sx hX [] 4000 rfl (by (simp [-List.getD_eq_getElem?_getD, -List.length_eq_zero_iff, conjP])) ?_
      refine sx hX [.F] 4000 rfl (by (simp [-List.getD_eq_getElem?_getD, -List.length_eq_zero_iff, conjP, addOP])) ?_
      refine sx hX [.K, .K, .K, .F, .K, .K, .K, .F] 4000 rfl (by (simp [-List.getD_eq_getElem?_getD, -List.length_eq_zero_iff, conjP, getH, HE.so, e0])) ?_
      refine sx hX [.F] 4000 rfl (by (simp [-List.getD_eq_getElem?_getD, -List.length_eq_zero_iff, conjP, addOP])) ?_
      refine sx hX [.T] 4000 rfl (by (simp [-List.getD_eq_getElem?_getD, -List.length_eq_zero_iff, conjP, e0])) ?_
      refine sx hX [.T] 4000 rfl (by (simp [-List.getD_eq_getElem?_getD, -List.length_eq_zero_iff, conjP, addOP])) ?_
      refine sx hX [.T] 4000 rfl (by (simp [-List.getD_eq_getElem?_getD, -List.length_eq_zero_iff, conjP, addOP])) ?_
      (refine ss_end hX [0, 1, 2, 3, 4, 5, 6, 7, 8] rfl rfl trivial rfl rfl rfl rfl ?hv ?hh ?hk ?ho; (case hv => exact clF); (case hh => (try simp only [hoC, hn]); exact clF); (case hk => exact clF); (case ho => exact clF))
    · refine sx hX [] 4000 rfl (by (simp [-List.getD_eq_getElem?_getD, -List.length_eq_zero_iff, conjP])) ?_
      refine sx hX [.F] 4000 rfl (by (simp [-List.getD_eq_getElem?_getD, -List.length_eq_zero_iff, conjP, addOP])) ?_
      refine sx hX [.K, .K, .K, .F, .K, .K, .K, .F] 4000 rfl (by (simp [-List.getD_eq_getElem?_getD, -List.length_eq_zero_iff, conjP, getH, HE.so, e0])) ?_
      refine sx hX [.F] 4000 rfl (by (simp [-List.getD_eq_getElem?_getD, -List.length_eq_zero_iff, conjP, addOP])) ?_
      refine sx hX [.T] 4000 rfl (by (simp [-List.getD_eq_getElem?_getD, -List.length_eq_zero_iff, conjP, e0])) ?_
      refine sx hX [.T] 4000 rfl (by (simp [-List.getD_eq_getElem?_getD, -List.length_eq_zero_iff, conjP, addOP])) ?_
      refine sx hX [.T] 4000 rfl (by (simp [-List.getD_eq_getElem?_getD, -List.length_eq_zero_iff, conjP, addOP])) ?_
      (refine ss_end hX [0, 1, 2, 3, 4, 5, 6, 7, 8] rfl rfl trivial rfl rfl rfl rfl ?hv ?hh ?hk ?ho; (case hv => exact clF); (case hh => (try simp only [hoC, hn]); exact clF); (case hk => exact clF); (case ho => exact clF))
set_option maxHeartbeats 8000000 in
theorem stnr {lg : Bool} {key : Int} {ph : Nat} {seq : Int} {j0 : Nat} {fd : Int} {hd : Bool} {tm er pl sn fl bk ep tp : Int} {tl : Bool} {lg' : Bool} {key' : Int} {ph' : Nat} {seq' : Int} {j' : Nat} {fd' : Int} {hd' : Bool} {tm' er' pl' sn' fl' bk' ep' tp' : Int} {tl' : Bool} {W' : List Int} {kd' wd' vl' : Int} {ch' : Bool}
    (P : TPre T R start ⟨true, lg, key, ph, seq, j0, fd, hd, tm, er, pl, sn, fl, bk, ep, tp, tl⟩ W st) (hst : tStep T R start ⟨true, lg, key, ph, seq, j0, fd, hd, tm, er, pl, sn, fl, bk, ep, tp, tl⟩ W st = ⟨⟨true, lg', key', ph', seq', j', fd', hd', tm', er', pl', sn', fl', bk', ep', tp', tl'⟩, W', kd', wd', vl', ch'⟩) (hD : Dtp T R start ⟨true, lg, key, ph, seq, j0, fd, hd, tm, er, pl, sn, fl, bk, ep, tp, tl⟩ W st kd wd vl ch ⟨⟨true, lg', key', ph', seq', j', fd', hd', tm', er', pl', sn', fl', bk', ep', tp', tl'⟩, W', kd', wd', vl', ch'⟩ (dpl T start ⟨true, lg, key, ph, seq, j0, fd, hd, tm, er, pl, sn, fl, bk, ep, tp, tl⟩) dp') (e0 : ¬ ph' = 0) :
    Gives Tryz.prog 71 [.ptr 0 0, .ptr 4 0, .ptr 6 0] [.obj (pcO true k), .obj (hoC (T : Int) R 2 1 ⟨true, lg, key, ph, seq, j0, fd, hd, tm, er, pl, sn, fl, bk, ep, tp, tl⟩), .obj (ruC 1 ⟨true, lg, key, ph, seq, j0, fd, hd, tm, er, pl, sn, fl, bk, ep, tp, tl⟩), .obj (drC (T : Int) R ⟨true, lg, key, ph, seq, j0, fd, hd, tm, er, pl, sn, fl, bk, ep, tp, tl⟩ (dpl T start ⟨true, lg, key, ph, seq, j0, fd, hd, tm, er, pl, sn, fl, bk, ep, tp, tl⟩)), AOx 5 W st kd wd vl ch, WO W, ROx 7 W st kd wd vl ch, WO W, pinE RTV]
      (Is .tt [.obj (pcO true k), .obj (hoC (T : Int) R 2 1 ⟨true, lg', key', ph', seq', j', fd', hd', tm', er', pl', sn', fl', bk', ep', tp', tl'⟩), .obj (ruC 1 ⟨true, lg', key', ph', seq', j', fd', hd', tm', er', pl', sn', fl', bk', ep', tp', tl'⟩), .obj (drC (T : Int) R ⟨true, lg', key', ph', seq', j', fd', hd', tm', er', pl', sn', fl', bk', ep', tp', tl'⟩ dp'), AOx 5 W' (st + 1) kd' wd' vl' ch', WO W', ROx 7 W' (st + 1) kd' wd' vl' ch', WO W', pinE RTV]) := by
  have hX := hXTf ⟨T, R, start, dp', ⟨true, lg, key, ph, seq, j0, fd, hd, tm, er, pl, sn, fl, bk, ep, tp, tl⟩, ⟨⟨true, lg', key', ph', seq', j', fd', hd', tm', er', pl', sn', fl', bk', ep', tp', tl'⟩, W', kd', wd', vl', ch'⟩⟩
  refine gives_x hX (fn := Tryz.f71) rfl rfl rfl rfl fun ρ w => ?_
  dsimp only [pcO, if_true]
  rcases nx_some (rm := true) (a := 2) (b := 1) e0 with ⟨n, hn⟩ | ⟨n, hn⟩
  · refine sxb hX [.r 15] [] 4000 rfl (by (simp [-List.getD_eq_getElem?_getD, -List.length_eq_zero_iff, conjP, P, hst, hD, ruC, cond_true])) ?_
    dsimp only [hoC]
    rw [hn]
    rcases hd' with _ | _
    · refine sx hX [] 4000 rfl (by (simp [-List.getD_eq_getElem?_getD, -List.length_eq_zero_iff, conjP])) ?_
      refine sx hX [.F] 4000 rfl (by (simp [-List.getD_eq_getElem?_getD, -List.length_eq_zero_iff, conjP, addOP])) ?_
      refine sx hX [.K, .K, .K, .F, .K, .K, .K, .F, .K, .K, .K, .K, .F] 4000 rfl (by (simp [-List.getD_eq_getElem?_getD, -List.length_eq_zero_iff, conjP, getH, HE.so, e0])) ?_
      refine sx hX [.F] 4000 rfl (by (simp [-List.getD_eq_getElem?_getD, -List.length_eq_zero_iff, conjP, addOP])) ?_
      refine sx hX [.T] 4000 rfl (by (simp [-List.getD_eq_getElem?_getD, -List.length_eq_zero_iff, conjP, e0])) ?_
      refine sx hX [.T] 4000 rfl (by (simp [-List.getD_eq_getElem?_getD, -List.length_eq_zero_iff, conjP, addOP])) ?_
      refine sx hX [.T] 4000 rfl (by (simp [-List.getD_eq_getElem?_getD, -List.length_eq_zero_iff, conjP, addOP])) ?_
      (refine ss_end hX [0, 1, 2, 3, 4, 5, 6, 7, 8] rfl rfl trivial rfl rfl rfl rfl ?hv ?hh ?hk ?ho; (case hv => exact clF); (case hh => (try simp only); exact clF); (case hk => exact clF); (case ho => exact clF))
    · refine sx hX [] 4000 rfl (by (simp [-List.getD_eq_getElem?_getD, -List.length_eq_zero_iff, conjP])) ?_
      refine sx hX [.F] 4000 rfl (by (simp [-List.getD_eq_getElem?_getD, -List.length_eq_zero_iff, conjP, addOP])) ?_
      refine sx hX [.K, .K, .K, .F, .K, .K, .K, .F, .K, .K, .K, .K, .F] 4000 rfl (by (simp [-List.getD_eq_getElem?_getD, -List.length_eq_zero_iff, conjP, getH, HE.so, e0])) ?_
      refine sx hX [.F] 4000 rfl (by (simp [-List.getD_eq_getElem?_getD, -List.length_eq_zero_iff, conjP, addOP])) ?_
      refine sx hX [.T] 4000 rfl (by (simp [-List.getD_eq_getElem?_getD, -List.length_eq_zero_iff, conjP, e0])) ?_
      refine sx hX [.T] 4000 rfl (by (simp [-List.getD_eq_getElem?_getD, -List.length_eq_zero_iff, conjP, addOP])) ?_
      refine sx hX [.T] 4000 rfl (by (simp [-List.getD_eq_getElem?_getD, -List.length_eq_zero_iff, conjP, addOP])) ?_
      (refine ss_end hX [0, 1, 2, 3, 4, 5, 6, 7, 8] rfl rfl trivial rfl rfl rfl rfl ?hv ?hh ?hk ?ho; (case hv => exact clF); (case hh => (try simp only); exact clF); (case hk => exact clF); (case ho => exact clF))
  · refine sxb hX [.r 15] [] 4000 rfl (by (simp [-List.getD_eq_getElem?_getD, -List.length_eq_zero_iff, conjP, P, hst, hD, ruC, cond_true])) ?_
    dsimp only [hoC]
    rw [hn]
    rcases hd' with _ | _
    · refine sx hX [] 4000 rfl (by (simp [-List.getD_eq_getElem?_getD, -List.length_eq_zero_iff, conjP])) ?_
      refine sx hX [.F] 4000 rfl (by (simp [-List.getD_eq_getElem?_getD, -List.length_eq_zero_iff, conjP, addOP])) ?_
      refine sx hX [.K, .K, .K, .F, .K, .K, .K, .F, .K, .K, .K, .K, .F] 4000 rfl (by (simp [-List.getD_eq_getElem?_getD, -List.length_eq_zero_iff, conjP, getH, HE.so, e0])) ?_
      refine sx hX [.F] 4000 rfl (by (simp [-List.getD_eq_getElem?_getD, -List.length_eq_zero_iff, conjP, addOP])) ?_
      refine sx hX [.T] 4000 rfl (by (simp [-List.getD_eq_getElem?_getD, -List.length_eq_zero_iff, conjP, e0])) ?_
      refine sx hX [.T] 4000 rfl (by (simp [-List.getD_eq_getElem?_getD, -List.length_eq_zero_iff, conjP, addOP])) ?_
      refine sx hX [.T] 4000 rfl (by (simp [-List.getD_eq_getElem?_getD, -List.length_eq_zero_iff, conjP, addOP])) ?_
      (refine ss_end hX [0, 1, 2, 3, 4, 5, 6, 7, 8] rfl rfl trivial rfl rfl rfl rfl ?hv ?hh ?hk ?ho; (case hv => exact clF); (case hh => (try simp only); exact clF); (case hk => exact clF); (case ho => exact clF))
    · refine sx hX [] 4000 rfl (by (simp [-List.getD_eq_getElem?_getD, -List.length_eq_zero_iff, conjP])) ?_
      refine sx hX [.F] 4000 rfl (by (simp [-List.getD_eq_getElem?_getD, -List.length_eq_zero_iff, conjP, addOP])) ?_
      refine sx hX [.K, .K, .K, .F, .K, .K, .K, .F, .K, .K, .K, .K, .F] 4000 rfl (by (simp [-List.getD_eq_getElem?_getD, -List.length_eq_zero_iff, conjP, getH, HE.so, e0])) ?_
      refine sx hX [.F] 4000 rfl (by (simp [-List.getD_eq_getElem?_getD, -List.length_eq_zero_iff, conjP, addOP])) ?_
      refine sx hX [.T] 4000 rfl (by (simp [-List.getD_eq_getElem?_getD, -List.length_eq_zero_iff, conjP, e0])) ?_
      refine sx hX [.T] 4000 rfl (by (simp [-List.getD_eq_getElem?_getD, -List.length_eq_zero_iff, conjP, addOP])) ?_
      refine sx hX [.T] 4000 rfl (by (simp [-List.getD_eq_getElem?_getD, -List.length_eq_zero_iff, conjP, addOP])) ?_
      (refine ss_end hX [0, 1, 2, 3, 4, 5, 6, 7, 8] rfl rfl trivial rfl rfl rfl rfl ?hv ?hh ?hk ?ho; (case hv => exact clF); (case hh => (try simp only); exact clF); (case hk => exact clF); (case ho => exact clF))
set_option maxHeartbeats 8000000 in
theorem stdcz {lg : Bool} {key : Int} {ph : Nat} {seq : Int} {j0 : Nat} {fd : Int} {hd : Bool} {tm er pl sn fl bk ep tp : Int} {tl : Bool} {lg' : Bool} {key' : Int} {seq' : Int} {j' : Nat} {fd' : Int} {tm' pl' sn' fl' bk' ep' tp' : Int} {tl' : Bool} {W' : List Int} {kd' wd' vl' : Int} {ch' : Bool}
    (P : TPre T R start ⟨false, lg, key, ph, seq, j0, fd, hd, tm, er, pl, sn, fl, bk, ep, tp, tl⟩ W st) (hst : tStep T R start ⟨false, lg, key, ph, seq, j0, fd, hd, tm, er, pl, sn, fl, bk, ep, tp, tl⟩ W st = ⟨⟨false, lg', key', 0, seq', j', fd', false, tm', 0, pl', sn', fl', bk', ep', tp', tl'⟩, W', kd', wd', vl', ch'⟩) (hD : Dtp T R start ⟨false, lg, key, ph, seq, j0, fd, hd, tm, er, pl, sn, fl, bk, ep, tp, tl⟩ W st kd wd vl ch ⟨⟨false, lg', key', 0, seq', j', fd', false, tm', 0, pl', sn', fl', bk', ep', tp', tl'⟩, W', kd', wd', vl', ch'⟩ (dpl T start ⟨false, lg, key, ph, seq, j0, fd, hd, tm, er, pl, sn, fl, bk, ep, tp, tl⟩) dp')  :
    Gives Tryz.prog 71 [.ptr 0 0, .ptr 4 0, .ptr 6 0] [.obj (pcO false k), .obj (hoC (T : Int) R 2 1 ⟨false, lg, key, ph, seq, j0, fd, hd, tm, er, pl, sn, fl, bk, ep, tp, tl⟩), .obj (ruC 1 ⟨false, lg, key, ph, seq, j0, fd, hd, tm, er, pl, sn, fl, bk, ep, tp, tl⟩), .obj (drC (T : Int) R ⟨false, lg, key, ph, seq, j0, fd, hd, tm, er, pl, sn, fl, bk, ep, tp, tl⟩ (dpl T start ⟨false, lg, key, ph, seq, j0, fd, hd, tm, er, pl, sn, fl, bk, ep, tp, tl⟩)), AOx 5 W st kd wd vl ch, WO W, ROx 7 W st kd wd vl ch, WO W, pinE RTV]
      (Is .tt [.obj (.cells [.nilptr, .nilptr, .ptr 3 0, .int .i64 k] 96), .obj (hoC (T : Int) R 2 1 ⟨false, lg', key', 0, seq', j', fd', false, tm', 0, pl', sn', fl', bk', ep', tp', tl'⟩), .obj (ruC 1 ⟨false, lg', key', 0, seq', j', fd', false, tm', 0, pl', sn', fl', bk', ep', tp', tl'⟩), .obj (drC (T : Int) R ⟨false, lg', key', 0, seq', j', fd', false, tm', 0, pl', sn', fl', bk', ep', tp', tl'⟩ dp'), AOx 5 W' (st + 1) kd' wd' vl' ch', WO W', ROx 7 W' (st + 1) kd' wd' vl' ch', WO W', pinE RTV]) := by
  have hX := hXTf ⟨T, R, start, dp', ⟨false, lg, key, ph, seq, j0, fd, hd, tm, er, pl, sn, fl, bk, ep, tp, tl⟩, ⟨⟨false, lg', key', 0, seq', j', fd', false, tm', 0, pl', sn', fl', bk', ep', tp', tl'⟩, W', kd', wd', vl', ch'⟩⟩
  have he : erV 0 = .niliface := rfl
  refine gives_x hX (fn := Tryz.f71) rfl rfl rfl rfl fun ρ w => ?_
  dsimp only [pcO, if_true]
  refine sxb hX [.r 4] [] 4000 rfl (by (simp [-List.getD_eq_getElem?_getD, -List.length_eq_zero_iff, conjP, P, hst, hD, ruC, cond_false])) ?_
  dsimp only [hoC]
  rw [he]
  refine sx hX [] 4000 rfl (by (simp [-List.getD_eq_getElem?_getD, -List.length_eq_zero_iff, conjP])) ?_
  refine sx hX [.K, .K, .K, .F, .K, .K, .K, .F] 4000 rfl (by (simp [-List.getD_eq_getElem?_getD, -List.length_eq_zero_iff, conjP, getH, HE.so])) ?_
  refine sx hX [.F] 4000 rfl (by (simp [-List.getD_eq_getElem?_getD, -List.length_eq_zero_iff, conjP, addOP])) ?_
  refine sx hX [.F] 4000 rfl (by (simp [-List.getD_eq_getElem?_getD, -List.length_eq_zero_iff, conjP, addOP])) ?_
  refine sx hX [.K, .T, .K, .K, .T] 4000 rfl (by (simp [-List.getD_eq_getElem?_getD, -List.length_eq_zero_iff, conjP, getH, HE.so])) ?_
  (refine ss_end hX [0, 1, 2, 3, 4, 5, 6, 7, 8] rfl rfl trivial rfl rfl rfl rfl ?hv ?hh ?hk ?ho; (case hv => first | exact show (_ == _) = true from beq_self_eq_true _ | exact clF); (case hh => (try simp only); exact clF); (case hk => exact clF); (case ho => exact clF))
set_option maxHeartbeats 8000000 in
theorem stdcn {lg : Bool} {key : Int} {ph : Nat} {seq : Int} {j0 : Nat} {fd : Int} {hd : Bool} {tm er pl sn fl bk ep tp : Int} {tl : Bool} {lg' : Bool} {key' : Int} {seq' : Int} {j' : Nat} {fd' : Int} {tm' er' pl' sn' fl' bk' : Int} {W' : List Int} {kd' wd' vl' : Int} {ch' : Bool}
    (P : TPre T R start ⟨false, lg, key, ph, seq, j0, fd, hd, tm, er, pl, sn, fl, bk, ep, tp, tl⟩ W st) (hst : tStep T R start ⟨false, lg, key, ph, seq, j0, fd, hd, tm, er, pl, sn, fl, bk, ep, tp, tl⟩ W st = ⟨⟨false, lg', key', 0, seq', j', fd', false, tm', er', pl', sn', fl', bk', 0, 0, false⟩, W', kd', wd', vl', ch'⟩) (hD : Dtp T R start ⟨false, lg, key, ph, seq, j0, fd, hd, tm, er, pl, sn, fl, bk, ep, tp, tl⟩ W st kd wd vl ch ⟨⟨false, lg', key', 0, seq', j', fd', false, tm', er', pl', sn', fl', bk', 0, 0, false⟩, W', kd', wd', vl', ch'⟩ (dpl T start ⟨false, lg, key, ph, seq, j0, fd, hd, tm, er, pl, sn, fl, bk, ep, tp, tl⟩) dp') (hn : ¬ er' = 0) :
    Gives Tryz.prog 71 [.ptr 0 0, .ptr 4 0, .ptr 6 0] [.obj (pcO false k), .obj (hoC (T : Int) R 2 1 ⟨false, lg, key, ph, seq, j0, fd, hd, tm, er, pl, sn, fl, bk, ep, tp, tl⟩), .obj (ruC 1 ⟨false, lg, key, ph, seq, j0, fd, hd, tm, er, pl, sn, fl, bk, ep, tp, tl⟩), .obj (drC (T : Int) R ⟨false, lg, key, ph, seq, j0, fd, hd, tm, er, pl, sn, fl, bk, ep, tp, tl⟩ (dpl T start ⟨false, lg, key, ph, seq, j0, fd, hd, tm, er, pl, sn, fl, bk, ep, tp, tl⟩)), AOx 5 W st kd wd vl ch, WO W, ROx 7 W st kd wd vl ch, WO W, pinE RTV]
      (Is .tt [.obj (.cells [.nilptr, .nilptr, .ptr 3 0, .int .i64 k] 96), .obj (hoC (T : Int) R 2 1 ⟨false, lg', key', 0, seq', j', fd', false, tm', er', pl', sn', fl', bk', 0, 0, false⟩), .obj (ruC 1 ⟨false, lg', key', 0, seq', j', fd', false, tm', er', pl', sn', fl', bk', 0, 0, false⟩), .obj (drC (T : Int) R ⟨false, lg', key', 0, seq', j', fd', false, tm', er', pl', sn', fl', bk', 0, 0, false⟩ dp'), AOx 5 W' (st + 1) kd' wd' vl' ch', WO W', ROx 7 W' (st + 1) kd' wd' vl' ch', WO W', pinE RTV]) := by
  have hX := hXTf ⟨T, R, start, dp', ⟨false, lg, key, ph, seq, j0, fd, hd, tm, er, pl, sn, fl, bk, ep, tp, tl⟩, ⟨⟨false, lg', key', 0, seq', j', fd', false, tm', er', pl', sn', fl', bk', 0, 0, false⟩, W', kd', wd', vl', ch'⟩⟩
  have he : erV er' = erO er' := by unfold erV; rw [if_neg hn]
  refine gives_x hX (fn := Tryz.f71) rfl rfl rfl rfl fun ρ w => ?_
  dsimp only [pcO, if_true]
  refine sxb hX [.r 4] [] 4000 rfl (by (simp [-List.getD_eq_getElem?_getD, -List.length_eq_zero_iff, conjP, P, hst, hD, ruC, cond_false])) ?_
  dsimp only [hoC]
  rw [he]
  refine sx hX [] 4000 rfl (by (simp [-List.getD_eq_getElem?_getD, -List.length_eq_zero_iff, conjP])) ?_
  refine sx hX [.K, .K, .K, .F, .K, .K, .K, .F] 4000 rfl (by (simp [-List.getD_eq_getElem?_getD, -List.length_eq_zero_iff, conjP, getH, HE.so])) ?_
  refine sx hX [.F] 4000 rfl (by (simp [-List.getD_eq_getElem?_getD, -List.length_eq_zero_iff, conjP, addOP])) ?_
  refine sx hX [.F] 4000 rfl (by (simp [-List.getD_eq_getElem?_getD, -List.length_eq_zero_iff, conjP, addOP])) ?_
  refine sx hX [.K, .T, .K, .K, .T] 4000 rfl (by (simp [-List.getD_eq_getElem?_getD, -List.length_eq_zero_iff, conjP, getH, HE.so])) ?_
  (refine ss_end hX [0, 1, 2, 3, 4, 5, 6, 7, 8] rfl rfl trivial rfl rfl rfl rfl ?hv ?hh ?hk ?ho; (case hv => first | exact show (_ == _) = true from beq_self_eq_true _ | exact clF); (case hh => (try simp only [hoC, he]); exact clF); (case hk => exact clF); (case ho => exact clF))
set_option maxHeartbeats 8000000 in
theorem stdrz {lg : Bool} {key : Int} {ph : Nat} {seq : Int} {j0 : Nat} {fd : Int} {hd : Bool} {tm er pl sn fl bk ep tp : Int} {tl : Bool} {lg' : Bool} {key' : Int} {seq' : Int} {j' : Nat} {fd' : Int} {tm' pl' sn' fl' bk' ep' tp' : Int} {tl' : Bool} {W' : List Int} {kd' wd' vl' : Int} {ch' : Bool}
    (P : TPre T R start ⟨true, lg, key, ph, seq, j0, fd, hd, tm, er, pl, sn, fl, bk, ep, tp, tl⟩ W st) (hst : tStep T R start ⟨true, lg, key, ph, seq, j0, fd, hd, tm, er, pl, sn, fl, bk, ep, tp, tl⟩ W st = ⟨⟨true, lg', key', 0, seq', j', fd', false, tm', 0, pl', sn', fl', bk', ep', tp', tl'⟩, W', kd', wd', vl', ch'⟩) (hD : Dtp T R start ⟨true, lg, key, ph, seq, j0, fd, hd, tm, er, pl, sn, fl, bk, ep, tp, tl⟩ W st kd wd vl ch ⟨⟨true, lg', key', 0, seq', j', fd', false, tm', 0, pl', sn', fl', bk', ep', tp', tl'⟩, W', kd', wd', vl', ch'⟩ (dpl T start ⟨true, lg, key, ph, seq, j0, fd, hd, tm, er, pl, sn, fl, bk, ep, tp, tl⟩) dp')  :
    Gives Tryz.prog 71 [.ptr 0 0, .ptr 4 0, .ptr 6 0] [.obj (pcO true k), .obj (hoC (T : Int) R 2 1 ⟨true, lg, key, ph, seq, j0, fd, hd, tm, er, pl, sn, fl, bk, ep, tp, tl⟩), .obj (ruC 1 ⟨true, lg, key, ph, seq, j0, fd, hd, tm, er, pl, sn, fl, bk, ep, tp, tl⟩), .obj (drC (T : Int) R ⟨true, lg, key, ph, seq, j0, fd, hd, tm, er, pl, sn, fl, bk, ep, tp, tl⟩ (dpl T start ⟨true, lg, key, ph, seq, j0, fd, hd, tm, er, pl, sn, fl, bk, ep, tp, tl⟩)), AOx 5 W st kd wd vl ch, WO W, ROx 7 W st kd wd vl ch, WO W, pinE RTV]
      (Is .tt [.obj (.cells [.nilptr, .nilptr, .ptr 3 0, .int .i64 k] 96), .obj (hoC (T : Int) R 2 1 ⟨true, lg', key', 0, seq', j', fd', false, tm', 0, pl', sn', fl', bk', ep', tp', tl'⟩), .obj (ruC 1 ⟨true, lg', key', 0, seq', j', fd', false, tm', 0, pl', sn', fl', bk', ep', tp', tl'⟩), .obj (drC (T : Int) R ⟨true, lg', key', 0, seq', j', fd', false, tm', 0, pl', sn', fl', bk', ep', tp', tl'⟩ dp'), AOx 5 W' (st + 1) kd' wd' vl' ch', WO W', ROx 7 W' (st + 1) kd' wd' vl' ch', WO W', pinE RTV]) := by
  have hX := hXTf ⟨T, R, start, dp', ⟨true, lg, key, ph, seq, j0, fd, hd, tm, er, pl, sn, fl, bk, ep, tp, tl⟩, ⟨⟨true, lg', key', 0, seq', j', fd', false, tm', 0, pl', sn', fl', bk', ep', tp', tl'⟩, W', kd', wd', vl', ch'⟩⟩
  have he : erV 0 = .niliface := rfl
  refine gives_x hX (fn := Tryz.f71) rfl rfl rfl rfl fun ρ w => ?_
  dsimp only [pcO, if_true]
  refine sxb hX [.r 15] [] 4000 rfl (by (simp [-List.getD_eq_getElem?_getD, -List.length_eq_zero_iff, conjP, P, hst, hD, ruC, cond_true])) ?_
  dsimp only [hoC]
  rw [he]
  refine sx hX [] 4000 rfl (by (simp [-List.getD_eq_getElem?_getD, -List.length_eq_zero_iff, conjP])) ?_
  refine sx hX [.K, .K, .K, .F, .K, .K, .K, .F, .K, .K, .K, .K, .F] 4000 rfl (by (simp [-List.getD_eq_getElem?_getD, -List.length_eq_zero_iff, conjP, getH, HE.so])) ?_
  refine sx hX [.F] 4000 rfl (by (simp [-List.getD_eq_getElem?_getD, -List.length_eq_zero_iff, conjP, addOP])) ?_
  refine sx hX [.F] 4000 rfl (by (simp [-List.getD_eq_getElem?_getD, -List.length_eq_zero_iff, conjP, addOP])) ?_
  refine sx hX [.K, .T, .K, .K, .T, .K, .F, .K, .T] 4000 rfl (by (simp [-List.getD_eq_getElem?_getD, -List.length_eq_zero_iff, conjP, getH, HE.so])) ?_
  (refine ss_end hX [0, 1, 2, 3, 4, 5, 6, 7, 8] rfl rfl trivial rfl rfl rfl rfl ?hv ?hh ?hk ?ho; (case hv => first | exact show (_ == _) = true from beq_self_eq_true _ | exact clF); (case hh => (try simp only); exact clF); (case hk => exact clF); (case ho => exact clF))
set_option maxHeartbeats 8000000 in
theorem stdrn {lg : Bool} {key : Int} {ph : Nat} {seq : Int} {j0 : Nat} {fd : Int} {hd : Bool} {tm er pl sn fl bk ep tp : Int} {tl : Bool} {lg' : Bool} {key' : Int} {seq' : Int} {j' : Nat} {fd' : Int} {tm' er' pl' sn' fl' bk' ep' tp' : Int} {tl' : Bool} {W' : List Int} {kd' wd' vl' : Int} {ch' : Bool}
    (P : TPre T R start ⟨true, lg, key, ph, seq, j0, fd, hd, tm, er, pl, sn, fl, bk, ep, tp, tl⟩ W st) (hst : tStep T R start ⟨true, lg, key, ph, seq, j0, fd, hd, tm, er, pl, sn, fl, bk, ep, tp, tl⟩ W st = ⟨⟨true, lg', key', 0, seq', j', fd', false, tm', er', pl', sn', fl', bk', ep', tp', tl'⟩, W', kd', wd', vl', ch'⟩) (hD : Dtp T R start ⟨true, lg, key, ph, seq, j0, fd, hd, tm, er, pl, sn, fl, bk, ep, tp, tl⟩ W st kd wd vl ch ⟨⟨true, lg', key', 0, seq', j', fd', false, tm', er', pl', sn', fl', bk', ep', tp', tl'⟩, W', kd', wd', vl', ch'⟩ (dpl T start ⟨true, lg, key, ph, seq, j0, fd, hd, tm, er, pl, sn, fl, bk, ep, tp, tl⟩) dp') (hn : ¬ er' = 0) :
    Gives Tryz.prog 71 [.ptr 0 0, .ptr 4 0, .ptr 6 0] [.obj (pcO true k), .obj (hoC (T : Int) R 2 1 ⟨true, lg, key, ph, seq, j0, fd, hd, tm, er, pl, sn, fl, bk, ep, tp, tl⟩), .obj (ruC 1 ⟨true, lg, key, ph, seq, j0, fd, hd, tm, er, pl, sn, fl, bk, ep, tp, tl⟩), .obj (drC (T : Int) R ⟨true, lg, key, ph, seq, j0, fd, hd, tm, er, pl, sn, fl, bk, ep, tp, tl⟩ (dpl T start ⟨true, lg, key, ph, seq, j0, fd, hd, tm, er, pl, sn, fl, bk, ep, tp, tl⟩)), AOx 5 W st kd wd vl ch, WO W, ROx 7 W st kd wd vl ch, WO W, pinE RTV]
      (Is .tt [.obj (.cells [.nilptr, .nilptr, .ptr 3 0, .int .i64 k] 96), .obj (hoC (T : Int) R 2 1 ⟨true, lg', key', 0, seq', j', fd', false, tm', er', pl', sn', fl', bk', ep', tp', tl'⟩), .obj (ruC 1 ⟨true, lg', key', 0, seq', j', fd', false, tm', er', pl', sn', fl', bk', ep', tp', tl'⟩), .obj (drC (T : Int) R ⟨true, lg', key', 0, seq', j', fd', false, tm', er', pl', sn', fl', bk', ep', tp', tl'⟩ dp'), AOx 5 W' (st + 1) kd' wd' vl' ch', WO W', ROx 7 W' (st + 1) kd' wd' vl' ch', WO W', pinE RTV]) := by
  have hX := hXTf ⟨T, R, start, dp', ⟨true, lg, key, ph, seq, j0, fd, hd, tm, er, pl, sn, fl, bk, ep, tp, tl⟩, ⟨⟨true, lg', key', 0, seq', j', fd', false, tm', er', pl', sn', fl', bk', ep', tp', tl'⟩, W', kd', wd', vl', ch'⟩⟩
  have he : erV er' = erO er' := by unfold erV; rw [if_neg hn]
  refine gives_x hX (fn := Tryz.f71) rfl rfl rfl rfl fun ρ w => ?_
  dsimp only [pcO, if_true]
  refine sxb hX [.r 15] [] 4000 rfl (by (simp [-List.getD_eq_getElem?_getD, -List.length_eq_zero_iff, conjP, P, hst, hD, ruC, cond_true])) ?_
  dsimp only [hoC]
  rw [he]
  refine sx hX [] 4000 rfl (by (simp [-List.getD_eq_getElem?_getD, -List.length_eq_zero_iff, conjP])) ?_
  refine sx hX [.K, .K, .K, .F, .K, .K, .K, .F, .K, .K, .K, .K, .F] 4000 rfl (by (simp [-List.getD_eq_getElem?_getD, -List.length_eq_zero_iff, conjP, getH, HE.so])) ?_
  refine sx hX [.F] 4000 rfl (by (simp [-List.getD_eq_getElem?_getD, -List.length_eq_zero_iff, conjP, addOP])) ?_
  refine sx hX [.F] 4000 rfl (by (simp [-List.getD_eq_getElem?_getD, -List.length_eq_zero_iff, conjP, addOP])) ?_
  refine sx hX [.K, .T, .K, .K, .T, .K, .T, .K, .K, .T] 4000 rfl (by (simp [-List.getD_eq_getElem?_getD, -List.length_eq_zero_iff, conjP, getH, HE.so, hn])) ?_
  (refine ss_end hX [0, 1, 2, 3, 4, 5, 6, 7, 8] rfl rfl trivial rfl rfl rfl rfl ?hv ?hh ?hk ?ho; (case hv => first | exact show (_ == _) = true from beq_self_eq_true _ | exact clF); (case hh => (try simp only); exact clF); (case hk => exact clF); (case ho => exact clF))
end
end Go.Proofs.YtkkddjchkkaagaaGreatDoor
