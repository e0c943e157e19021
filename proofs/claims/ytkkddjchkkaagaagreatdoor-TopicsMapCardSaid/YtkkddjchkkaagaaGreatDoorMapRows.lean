/- TopicsMap: rows: what a run tells that is done; a row of keys with one more, or without it. -/
import Derived.Test.YtkkddjchkkaagaaGreatDoorMapRead
import Derived.Test.YtkkddjchkkaagaaGreatDoorHas
import Derived.Test.YtkkddjchkkaagaaGreatDoorEpochsRows
import Derived.Test.YtkkddjchkkaagaaGreatDoorWorld
import Derived.Test.YtkkddjchkkaagaaGreatDoorScript
import Derived.Test.YtkkddjchkkaagaaGreatDoorThreeLaw
namespace Go.Proofs.YtkkddjchkkaagaaGreatDoor
open Go Go.Hx
set_option maxRecDepth 8000
section
variable {T : Nat} {R : Int}

set_option maxHeartbeats 4000000 in
theorem cmtr_fn {lg : Bool} {key : Int} {seq : Int} {j0 : Nat} {fd : Int} {hd : Bool} {tm er pl sn fl bk ep tp : Int} {tl : Bool} : Gives Tryz.prog 69 [.ptr 0 0] [.obj (ruC 1 ⟨true, lg, key, 0, seq, j0, fd, hd, tm, er, pl, sn, fl, bk, ep, tp, tl⟩), .obj (hoC (T : Int) R 0 1 ⟨true, lg, key, 0, seq, j0, fd, hd, tm, er, pl, sn, fl, bk, ep, tp, tl⟩)] (Is (.int .i64 tm) [.obj (ruC 1 ⟨true, lg, key, 0, seq, j0, fd, hd, tm, er, pl, sn, fl, bk, ep, tp, tl⟩), .obj (hoC (T : Int) R 0 1 ⟨true, lg, key, 0, seq, j0, fd, hd, tm, er, pl, sn, fl, bk, ep, tp, tl⟩)]) := by
  refine gives_x hXTx (fn := Tryz.f69) rfl rfl rfl rfl fun ρ w => ?_
  dsimp only [ruC, hoC, nxV, cond_true, cond_false]
  refine sx hXTx [] 4000 rfl (by (simp [-List.getD_eq_getElem?_getD, -List.length_eq_zero_iff, conjP])) ?_
  (refine ss_end hXTx [0, 1] rfl rfl trivial rfl rfl rfl rfl ?hv ?hh ?hk ?ho; (case hv => exact clZ); (case hh => exact clZ); (case hk => exact clZ); (case ho => exact clZ))
set_option maxHeartbeats 4000000 in
theorem tldrt_fn {lg : Bool} {key : Int} {seq : Int} {j0 : Nat} {fd : Int} {hd : Bool} {tm pl sn fl bk ep tp : Int} {tl : Bool} : Gives Tryz.prog 62 [.ptr 0 0] [.obj (ruC 1 ⟨true, lg, key, 0, seq, j0, fd, hd, tm, 0, pl, sn, fl, bk, ep, tp, tl⟩), .obj (hoC (T : Int) R 0 1 ⟨true, lg, key, 0, seq, j0, fd, hd, tm, 0, pl, sn, fl, bk, ep, tp, tl⟩)] (Is (.tup [.int .i64 bk, .niliface]) [.obj (ruC 1 ⟨true, lg, key, 0, seq, j0, fd, hd, tm, 0, pl, sn, fl, bk, ep, tp, tl⟩), .obj (hoC (T : Int) R 0 1 ⟨true, lg, key, 0, seq, j0, fd, hd, tm, 0, pl, sn, fl, bk, ep, tp, tl⟩)]) := by
  refine gives_x hXTx (fn := Tryz.f62) rfl rfl rfl rfl fun ρ w => ?_
  dsimp only [ruC, hoC, nxV, cond_true, cond_false]
  dsimp only [erV]
  refine sx hXTx [] 4000 rfl (by (simp [-List.getD_eq_getElem?_getD, -List.length_eq_zero_iff, conjP])) ?_
  (refine ss_end hXTx [0, 1] rfl rfl trivial rfl rfl rfl rfl ?hv ?hh ?hk ?ho; (case hv => exact clZ); (case hh => exact clZ); (case hk => exact clZ); (case ho => exact clZ))
set_option maxHeartbeats 4000000 in
theorem tldrf_fn {lg : Bool} {key : Int} {seq : Int} {j0 : Nat} {fd : Int} {hd : Bool} {tm er pl sn fl bk ep tp : Int} {tl : Bool} (he : ¬ er = 0) : Gives Tryz.prog 62 [.ptr 0 0] [.obj (ruC 1 ⟨true, lg, key, 0, seq, j0, fd, hd, tm, er, pl, sn, fl, bk, ep, tp, tl⟩), .obj (hoC (T : Int) R 0 1 ⟨true, lg, key, 0, seq, j0, fd, hd, tm, er, pl, sn, fl, bk, ep, tp, tl⟩)] (Is (.tup [.int .i64 0, erO er]) [.obj (ruC 1 ⟨true, lg, key, 0, seq, j0, fd, hd, tm, er, pl, sn, fl, bk, ep, tp, tl⟩), .obj (hoC (T : Int) R 0 1 ⟨true, lg, key, 0, seq, j0, fd, hd, tm, er, pl, sn, fl, bk, ep, tp, tl⟩)]) := by
  refine gives_x hXTx (fn := Tryz.f62) rfl rfl rfl rfl fun ρ w => ?_
  have ee : erV er = erO er := if_neg he
  dsimp only [ruC, hoC, nxV, cond_true, cond_false]
  rw [ee]
  refine sx hXTx [] 4000 rfl (by (simp [-List.getD_eq_getElem?_getD, -List.length_eq_zero_iff, conjP])) ?_
  (refine ss_end hXTx [0, 1] rfl rfl trivial rfl rfl rfl rfl ?hv ?hh ?hk ?ho; (case hv => exact clZ); (case hh => exact clZ); (case hk => exact clZ); (case ho => exact clZ))
set_option maxHeartbeats 4000000 in
theorem cmtc_fn {lg : Bool} {key : Int} {seq : Int} {j0 : Nat} {fd : Int} {hd : Bool} {tm er pl sn fl bk ep tp : Int} {tl : Bool} : Gives Tryz.prog 66 [.ptr 0 0] [.obj (ruC 1 ⟨false, lg, key, 0, seq, j0, fd, hd, tm, er, pl, sn, fl, bk, ep, tp, tl⟩), .obj (hoC (T : Int) R 0 1 ⟨false, lg, key, 0, seq, j0, fd, hd, tm, er, pl, sn, fl, bk, ep, tp, tl⟩)] (Is (.int .i64 tm) [.obj (ruC 1 ⟨false, lg, key, 0, seq, j0, fd, hd, tm, er, pl, sn, fl, bk, ep, tp, tl⟩), .obj (hoC (T : Int) R 0 1 ⟨false, lg, key, 0, seq, j0, fd, hd, tm, er, pl, sn, fl, bk, ep, tp, tl⟩)]) := by
  refine gives_x hXTx (fn := Tryz.f66) rfl rfl rfl rfl fun ρ w => ?_
  dsimp only [ruC, hoC, nxV, cond_true, cond_false]
  refine sx hXTx [] 4000 rfl (by (simp [-List.getD_eq_getElem?_getD, -List.length_eq_zero_iff, conjP])) ?_
  (refine ss_end hXTx [0, 1] rfl rfl trivial rfl rfl rfl rfl ?hv ?hh ?hk ?ho; (case hv => exact clZ); (case hh => exact clZ); (case hk => exact clZ); (case ho => exact clZ))
set_option maxHeartbeats 4000000 in
theorem tldct_fn {lg : Bool} {key : Int} {seq : Int} {j0 : Nat} {fd : Int} {hd : Bool} {tm pl sn fl bk ep tp : Int} {tl : Bool} : Gives Tryz.prog 64 [.ptr 0 0] [.obj (ruC 1 ⟨false, lg, key, 0, seq, j0, fd, hd, tm, 0, pl, sn, fl, bk, ep, tp, tl⟩), .obj (hoC (T : Int) R 0 1 ⟨false, lg, key, 0, seq, j0, fd, hd, tm, 0, pl, sn, fl, bk, ep, tp, tl⟩)] (Is (.tup [.agg [.int .i64 tp, .int .i64 ep, .bool tl], .niliface]) [.obj (ruC 1 ⟨false, lg, key, 0, seq, j0, fd, hd, tm, 0, pl, sn, fl, bk, ep, tp, tl⟩), .obj (hoC (T : Int) R 0 1 ⟨false, lg, key, 0, seq, j0, fd, hd, tm, 0, pl, sn, fl, bk, ep, tp, tl⟩)]) := by
  refine gives_x hXTx (fn := Tryz.f64) rfl rfl rfl rfl fun ρ w => ?_
  dsimp only [ruC, hoC, nxV, cond_true, cond_false]
  dsimp only [erV]
  refine sx hXTx [] 4000 rfl (by (simp [-List.getD_eq_getElem?_getD, -List.length_eq_zero_iff, conjP])) ?_
  (refine ss_end hXTx [0, 1] rfl rfl trivial rfl rfl rfl rfl ?hv ?hh ?hk ?ho; (case hv => exact clZ); (case hh => exact clZ); (case hk => exact clZ); (case ho => exact clZ))
set_option maxHeartbeats 4000000 in
theorem tldcf_fn {lg : Bool} {key : Int} {seq : Int} {j0 : Nat} {fd : Int} {hd : Bool} {tm er pl sn fl bk ep tp : Int} {tl : Bool} (he : ¬ er = 0) : Gives Tryz.prog 64 [.ptr 0 0] [.obj (ruC 1 ⟨false, lg, key, 0, seq, j0, fd, hd, tm, er, pl, sn, fl, bk, ep, tp, tl⟩), .obj (hoC (T : Int) R 0 1 ⟨false, lg, key, 0, seq, j0, fd, hd, tm, er, pl, sn, fl, bk, ep, tp, tl⟩)] (Is (.tup [.agg [.int .i64 0, .int .i64 0, .ff], erO er]) [.obj (ruC 1 ⟨false, lg, key, 0, seq, j0, fd, hd, tm, er, pl, sn, fl, bk, ep, tp, tl⟩), .obj (hoC (T : Int) R 0 1 ⟨false, lg, key, 0, seq, j0, fd, hd, tm, er, pl, sn, fl, bk, ep, tp, tl⟩)]) := by
  refine gives_x hXTx (fn := Tryz.f64) rfl rfl rfl rfl fun ρ w => ?_
  have ee : erV er = erO er := if_neg he
  dsimp only [ruC, hoC, nxV, cond_true, cond_false]
  rw [ee]
  refine sx hXTx [] 4000 rfl (by (simp [-List.getD_eq_getElem?_getD, -List.length_eq_zero_iff, conjP])) ?_
  (refine ss_end hXTx [0, 1] rfl rfl trivial rfl rfl rfl rfl ?hv ?hh ?hk ?ho; (case hv => exact clZ); (case hh => exact clZ); (case hk => exact clZ); (case ho => exact clZ))
end
/-- When it took effect: a run that is done. -/
def cmtS (rm : Bool) (T : Nat) (R : Int) (s : TS) : Hx.Spec := fun args H => match args with
  | [.ptr h 0] => match getH H h with
    | some (.cells (.ptr hh 0 :: vs) ty) => match getH H hh, nodupN [h, hh] with
      | some o2, true => some ([s.rm = rm, s.ph = 0, SO.cells (.ptr hh 0 :: vs) ty = ruC hh s, o2 = hoC (T : Int) R h hh s], .int .i64 s.tm, (H.set h (.obj (ruC hh s))).set hh (.obj (hoC (T : Int) R h hh s)))
      | _, _ => none
    | _ => none
  | _ => none
def cmF (rm : Bool) : Nat := bif rm then 69 else 66
def tlF (rm : Bool) : Nat := bif rm then 62 else 64
/-- What it tells; e0: it came to be. -/
def tlV (rm e0 : Bool) (s : TS) : SV := match rm, e0 with
  | true, true => .tup [.int .i64 s.bk, .niliface]
  | true, false => .tup [.int .i64 0, erO s.er]
  | false, true => .tup [.agg [.int .i64 s.tp, .int .i64 s.ep, .bool s.tl], .niliface]
  | false, false => .tup [.agg [.int .i64 0, .int .i64 0, .ff], erO s.er]
def tldS (rm e0 : Bool) (T : Nat) (R : Int) (s : TS) : Hx.Spec := fun args H => match args with
  | [.ptr h 0] => match getH H h with
    | some (.cells (.ptr hh 0 :: vs) ty) => match getH H hh, nodupN [h, hh] with
      | some o2, true => some ([s.rm = rm, s.ph = 0, decide (s.er = 0) = e0, SO.cells (.ptr hh 0 :: vs) ty = ruC hh s, o2 = hoC (T : Int) R h hh s], tlV rm e0 s, (H.set h (.obj (ruC hh s))).set hh (.obj (hoC (T : Int) R h hh s)))
      | _, _ => none
    | _ => none
  | _ => none
theorem two_okh {T : Nat} {R : Int} {s : TS} : okHs (there [.obj (ruC 1 s), .obj (hoC (T : Int) R 0 1 s)]) [.obj (ruC 1 s), .obj (hoC (T : Int) R 0 1 s)] = true := by
  have e1 : (ruC 1 s).okh (there [.obj (ruC 1 s), .obj (hoC (T : Int) R 0 1 s)]) = true := okh_ruC rfl
  have e2 : (hoC (T : Int) R 0 1 s).okh (there [.obj (ruC 1 s), .obj (hoC (T : Int) R 0 1 s)]) = true := okh_hoC rfl rfl
  simp only [okHs, e1, e2, Bool.true_and]
theorem cmtS_ok {rm : Bool} {T : Nat} {R : Int} {s : TS} {args : List SV} {H : List HE} {ob : List Prop} {V : SV} {L : List HE} (hs : cmtS rm T R s args H = some (ob, V, L)) (ho : AllP ob) : Gives Tryz.prog (cmF rm) args H (Is V L) := by
  unfold cmtS at hs
  split at hs
  case h_2 => simp at hs
  rename_i _ h
  split at hs
  case h_2 => simp at hs
  rename_i _ hh vs ty hg
  split at hs
  case h_2 => simp at hs
  rename_i _ _ o2 hg2 hnd
  simp only [Option.some.injEq, Prod.mk.injEq] at hs
  obtain ⟨rfl, rfl, rfl⟩ := hs
  simp only [AllP, List.mem_cons, List.not_mem_nil, or_false, forall_eq_or_imp, forall_eq] at ho
  obtain ⟨a1, a2, a3, rfl⟩ := ho
  rw [a3] at hg
  have key : Gives Tryz.prog (cmF rm) [.ptr 0 0] [.obj (ruC 1 s), .obj (hoC (T : Int) R 0 1 s)] (Is (.int .i64 s.tm) [.obj (ruC 1 s), .obj (hoC (T : Int) R 0 1 s)]) := by
    obtain ⟨rm', lg, key, ph, seq, i, fd, hd, tm, er, pl, sn, fl, bk, ep, tp, tl⟩ := s
    dsimp only at a1 a2
    subst a1; subst a2
    cases rm'
    · exact cmtc_fn
    · exact cmtr_fn
  exact frame2n (H := H) (h0 := h) (h1 := hh) (ags := [.ptr h 0]) ⟨_, hTE⟩ key rfl rfl two_okh hnd (by rw [ren_ruC]; exact hg) (by rw [ren_hoC]; exact hg2) rfl (by rw [ren_ruC]; rfl) (by rw [ren_hoC]; rfl)
theorem tldS_ok {rm e0 : Bool} {T : Nat} {R : Int} {s : TS} {args : List SV} {H : List HE} {ob : List Prop} {V : SV} {L : List HE} (hs : tldS rm e0 T R s args H = some (ob, V, L)) (ho : AllP ob) : Gives Tryz.prog (tlF rm) args H (Is V L) := by
  unfold tldS at hs
  split at hs
  case h_2 => simp at hs
  rename_i _ h
  split at hs
  case h_2 => simp at hs
  rename_i _ hh vs ty hg
  split at hs
  case h_2 => simp at hs
  rename_i _ _ o2 hg2 hnd
  simp only [Option.some.injEq, Prod.mk.injEq] at hs
  obtain ⟨rfl, rfl, rfl⟩ := hs
  simp only [AllP, List.mem_cons, List.not_mem_nil, or_false, forall_eq_or_imp, forall_eq] at ho
  obtain ⟨a1, a2, a0, a3, rfl⟩ := ho
  rw [a3] at hg
  have key : Gives Tryz.prog (tlF rm) [.ptr 0 0] [.obj (ruC 1 s), .obj (hoC (T : Int) R 0 1 s)] (Is (tlV rm e0 s) [.obj (ruC 1 s), .obj (hoC (T : Int) R 0 1 s)]) := by
    obtain ⟨rm', lg, key, ph, seq, i, fd, hd, tm, er, pl, sn, fl, bk, ep, tp, tl⟩ := s
    dsimp only at a0 a1 a2
    subst a1; subst a2
    by_cases e : er = 0
    · subst e
      obtain rfl : true = e0 := by rw [← a0]; rfl
      cases rm'
      · exact tldct_fn
      · exact tldrt_fn
    · obtain rfl : false = e0 := by rw [← a0, decide_eq_false e]
      cases rm'
      · exact tldcf_fn e
      · exact tldrf_fn e
  have hv : (tlV rm e0 s).ren (nm [h, hh] H) = tlV rm e0 s := by cases rm <;> cases e0 <;> rfl
  exact frame2n (H := H) (h0 := h) (h1 := hh) (ags := [.ptr h 0]) ⟨_, hTE⟩ key rfl rfl two_okh hnd (by rw [ren_ruC]; exact hg) (by rw [ren_hoC]; exact hg2) hv (by rw [ren_ruC]; rfl) (by rw [ren_hoC]; rfl)
/-- A row with a number more, or without it, as a row. -/
def togS : Hx.Spec := fun args H => match args with
  | [.nilslice, .int .i64 n] => match nums[H.length]? with
    | some h1 => some ([], slV (tgO (lst none) n) h1, H ++ [slE (tgO (lst none) n) .i64 3])
    | none => none
  | [.sbuf h 1 0 l, .int .i64 n] => match getH H h, nums[H.length]? with
    | some (.buf .i64 L 1 3), some h1 => some ([l = L.length, L.length < 1000], slV (tgO (lst (some L)) n) h1, H ++ [slE (tgO (lst (some L)) n) .i64 3])
    | _, _ => none
  | _ => none
theorem togS_ok {args : List SV} {H : List HE} {ob : List Prop} {V : SV} {L : List HE} (hs : togS args H = some (ob, V, L)) (ho : AllP ob) : Gives Tryz.prog 70 args H (Is V L) := by
  unfold togS at hs
  split at hs
  · rename_i _ n
    split at hs
    case h_2 => simp at hs
    rename_i _ t0
    have t0' := nums_get _ _ t0
    subst t0'
    simp only [Option.some.injEq, Prod.mk.injEq] at hs
    obtain ⟨rfl, rfl, rfl⟩ := hs
    have e : tgO (lst none) n = some [n] := rfl
    rw [e]
    exact frame0 (H := H) (N := [_]) ⟨_, hTE⟩ (tog_nil n) rfl rfl
  · rename_i _ h l n
    split at hs
    case h_2 => simp at hs
    rename_i _ _ X h1 hg t0
    have t0' := nums_get _ _ t0
    subst t0'
    simp only [Option.some.injEq, Prod.mk.injEq] at hs
    obtain ⟨rfl, rfl, rfl⟩ := hs
    have o1 := ho _ (List.mem_cons_self ..)
    have o2 := ho _ (List.mem_cons_of_mem _ (List.mem_cons_self ..))
    subst o1
    have := frame1 (N := [_]) (H := H) (h0 := h) ⟨_, hTE⟩ (tog_fn X n o2) rfl rfl rfl hg (by cases tgO X n <;> rfl)
    have e : SO.ren (nm [h] H) (SO.buf .i64 X 1 3) = SO.buf .i64 X 1 3 := rfl
    rw [e, set_self hg] at this
    have e2 : (slV (tgO X n) 1).ren (nm [h] H) = slV (tgO X n) H.length := by cases tgO X n <;> rfl
    rw [e2, List.map_cons, List.map_nil, ren_slE] at this
    exact this
  · simp at hs
end Go.Proofs.YtkkddjchkkaagaaGreatDoor

/- TopicsMap: the world of a turn, and what is so. -/
namespace Go.Proofs.YtkkddjchkkaagaaGreatDoor
open Go Go.Hx
set_option maxRecDepth 8000
structure UP where
  (T : Nat) (R : Int) (sf : Nat) (back e0 : Bool) (s : TS) (r : TR)
def ctTu (p : UP) : Nat → Option Hx.Spec
  | 54 => some (begS p.T p.back)
  | 55 => some (tStS false p.T p.R p.sf p.s p.r)
  | 56 => some (tStS true p.T p.R p.sf p.s p.r)
  | 66 => some (cmtS false p.T p.R p.r.s)
  | 69 => some (cmtS true p.T p.R p.r.s)
  | 64 => some (tldS false p.e0 p.T p.R p.r.s)
  | 62 => some (tldS true p.e0 p.T p.R p.r.s)
  | 18 => some (top1S)
  | _ => none
theorem ctTu_ok (p : UP) : ∀ f s args H ob V L, ctTu p f = some s → s args H = some (ob, V, L) → AllP ob → Gives Tryz.prog f args H (Is V L) := by
  intro f s args H ob V L h hs ho
  unfold ctTu at h
  split at h
  · simp at h; subst h; exact begS_ok hs ho
  · simp at h; subst h; exact tStS_ok hs ho
  · simp at h; subst h; exact tStS_ok hs ho
  · simp at h; subst h; exact cmtS_ok hs ho
  · simp at h; subst h; exact cmtS_ok hs ho
  · simp at h; subst h; exact tldS_ok hs ho
  · simp at h; subst h; exact tldS_ok hs ho
  · simp at h; subst h; exact top1S_ok hs ho
  · simp at h
noncomputable def XTu (p : UP) : Tabs := tabs tr ft xt (fun _ => none) (ctTu p) 0
theorem hXTu (p : UP) : TOk Tryz.prog (XTu p) := ⟨hTE, hFT, (ctTu_ok p), hXT, fun t ks h => by simp [XTu, tabs] at h, mixed⟩
/-- The log, as it lies. -/
def flE : List EvT → List Int
  | [] => []
  | e :: l => e.tm :: e.key :: e.op :: e.er :: flE l
theorem flE_app {e : EvT} : ∀ {l : List EvT}, flE (l ++ [e]) = flE l ++ [e.tm, e.key, e.op, e.er]
  | [] => rfl
  | x :: l => by simp [flE, flE_app (l := l)]
theorem flE_len : ∀ {l : List EvT}, (flE l).length = l.length * 4
  | [] => rfl
  | x :: l => by simp [flE, flE_len (l := l)]; omega
theorem flE_at : ∀ {l : List EvT} {p : Nat} (h : p < l.length), (flE l).getD (p * 4) 0 = (l[p]).tm ∧ (flE l).getD (p * 4 + 1) 0 = (l[p]).key ∧ (flE l).getD (p * 4 + 2) 0 = (l[p]).op ∧ (flE l).getD (p * 4 + 3) 0 = (l[p]).er
  | x :: l, 0, _ => ⟨rfl, rfl, rfl, rfl⟩
  | x :: l, p + 1, h => by
    have := flE_at (l := l) (p := p) (by simpa using h)
    rw [show (p + 1) * 4 = p * 4 + 1 + 1 + 1 + 1 by omega]
    simpa [flE] using this
def lgV (L : List EvT) (h : Nat) : SV := match L with | [] => .nilslice | _ :: _ => .sbuf h 4 0 L.length
def lgE (L : List EvT) : HE := match L with | [] => .absent | _ :: _ => .obj (.buf .i64 (flE L) 4 114)
section
variable {σ : Nat → Nat} {H H' : List HE} {h h' i : Nat} {L : List EvT}
theorem ren_lgV : (lgV L h).ren σ = lgV L (σ h) := by cases L <;> rfl
theorem ren_lgE : (lgE L).ren σ = lgE L := by cases L <;> rfl
theorem sim_lgV (hs : σ h = h') : sim (lgV L h') ((lgV L h).ren σ) := by rw [ren_lgV, hs]; exact sim_refl _
theorem okP_lgV (e : thereF H' h = (lgE L).there) : okP (thereF H') (lgV L h) := by
  cases L with
  | nil => trivial
  | cons a l => simpa [lgV, okP, lgE, HE.there] using e
theorem okE_lgE {A : Nat → Bool} : okE A (lgE L) := by cases L <;> trivial
theorem lg_some (h0 : L ≠ []) : lgV L h = .sbuf h 4 0 L.length ∧ lgE L = .obj (.buf .i64 (flE L) 4 114) := by
  cases L with
  | nil => exact absurd rfl h0
  | cons a l => exact ⟨rfl, rfl⟩
theorem lgV_app {e : EvT} : lgV (L ++ [e]) h = .sbuf h 4 0 (L.length + 1) := by
  have := (lg_some (L := L ++ [e]) (h := h) (by simp)).1
  simpa using this
theorem lgE_app {e : EvT} : lgE (L ++ [e]) = .obj (.buf .i64 (flE L ++ [e.tm, e.key, e.op, e.er]) 4 114) := by
  have := (lg_some (L := L ++ [e]) (h := 0) (by simp)).2
  rw [flE_app] at this
  exact this
end
theorem clhU {P : Prop} (h : P := by repeat' (first | exact rfl | exact trivial | exact sim_refl _ | exact simO_refl _ | exact sim_lgV rfl | exact sim_erV | exact subE_same rfl ren_scE | exact subE_same rfl ren_lgE | exact subE_hdE rfl rfl rfl | exact subE_ruE rfl rfl | exact sim_crP rfl | exact sim_rmP rfl | assumption | refine And.intro ?_ ?_)) : P := h
theorem clkU {P : Prop} (h : P := by repeat' (first | exact rfl | exact trivial | exact okE_scE | exact okE_lgE | exact okP_lgV rfl | exact okE_hdE (i := 9) rfl rfl | exact okE_hdE (i := 11) rfl rfl | exact okE_hdE (i := 13) rfl rfl | exact okE_ruE (h := 10) rfl | exact okE_ruE (h := 12) rfl | exact okE_ruE (h := 14) rfl | exact okP_crP (i := 9) rfl | exact okP_crP (i := 11) rfl | exact okP_crP (i := 13) rfl | exact okP_rmP (i := 9) rfl | exact okP_rmP (i := 11) rfl | exact okP_rmP (i := 13) rfl | exact okP_erV | refine And.intro ?_ ?_)) : P := h
structure US where
  (i : Nat) (z : Tq) (L : List EvT)
def umT (N cap : Nat) (x : US) : List (Nat × SV) := [(1, .slice 0 0 N cap), (5, .tt), (6, .ptr 2 0), (7, .ptr 3 0), (9, .slice 5 0 3 3), (10, lgV x.L 15), (11, .int .i64 (x.i : Int))]
def umK (K : Nat) (N cap : Nat) (x : US) : List (Nat × SV) := [(1, .slice 0 0 N cap), (5, .tt), (6, .ptr 2 0), (7, .ptr 3 0), (9, .slice 5 0 3 3), (10, lgV x.L 15), (11, .int .i64 (x.i : Int)), (13, .ptr (6 + K) 0)]
def umH (N : Nat) (o : Nat → Int × Int × Bool × Bool) (T : Nat) (R : Int) (x : US) : List HE := tqH (.obj (.rows N 4 (actR o))) T R x.z [lgE x.L]
/-- How many turns a client had behind the script. -/
def tnI (K N i : Nat) : Nat := (i + 3 - K) / 4 - (min N 200 + 3 - K) / 4
structure UInv (T : Nat) (R : Int) (N : Nat) (x : US) : Prop where
  b : BI T R (2 * (x.i : Int)) x.z.W x.z.st
  c0 : okO (TC T R (2 * (x.i : Int))) x.z.c0
  c1 : okO (TC T R (2 * (x.i : Int))) x.z.c1
  c2 : okO (TC T R (2 * (x.i : Int))) x.z.c2
  d : DInv T (sfT T R) x.z.W (cf3 x.z.c0 x.z.c1 x.z.c2)
  nf : NF T x.z.W (cf3 x.z.c0 x.z.c1 x.z.c2)
  mg : ∃ G q, MG T x.z.W (cf3 x.z.c0 x.z.c1 x.z.c2) x.z.st x.L G q
  k0 : okO (fun s => s.key = x.z.k0) x.z.c0
  k1 : okO (fun s => s.key = x.z.k1) x.z.c1
  k2 : okO (fun s => s.key = x.z.k2) x.z.c2
  m0 : okO (fun s => mJ T R s + (tnI 0 N x.i : Int) ≤ 24) x.z.c0
  m1 : okO (fun s => mJ T R s + (tnI 1 N x.i : Int) ≤ 24) x.z.c1
  m2 : okO (fun s => mJ T R s + (tnI 2 N x.i : Int) ≤ 24) x.z.c2
  hl : x.L.length ≤ x.i
  hi : x.i ≤ min N 200 + 120
section
variable {T : Nat} {R : Int} {N : Nat} {x : US}
theorem UInv.facts (h : UInv T R N x) (hi : x.i < min N 200 + 120) : (x.i : Int) < 320 ∧ IntKind.i64.wrap ((x.i : Int) + 1) = ((x.i + 1 : Nat) : Int) ∧
    1 ≤ T ∧ T ≤ 4 ∧ 1 ≤ R ∧ R ≤ 8 ∧ x.z.W.length = 11 + 10 * T ∧ 0 ≤ x.z.st ∧ x.z.st < 1000000 ∧ WR x.z.W := by
  have b := h.b
  have h1 := b.s0
  have h2 := b.s1
  exact ⟨by omega, by rw [wi64 (by omega) (by omega)]; omega, b.t1, b.t4, b.r1, b.r8, b.hl, b.s0, by omega, b.hw⟩
theorem um_oth {K j i : Nat} {o : Option TS} (hk : i < min N 200 ∨ i % 4 = K) (h1 : j ≠ K) (h2 : j < 3) (h3 : K < 4) (m : okO (fun s => mJ T R s + (tnI j N i : Int) ≤ 24) o) : okO (fun s => mJ T R s + (tnI j N (i + 1) : Int) ≤ 24) o := by
  have e : tnI j N (i + 1) = tnI j N i := by unfold tnI; omega
  rw [e]; exact m
theorem um_new {K i : Nat} {n : Int} {W : List Int} {st : Int} {rm lg : Bool} {key : Int} (B : BI T R n W st) (k1 : 1 ≤ key) (k6 : key ≤ 6) (_ : 0 < 1) (hi : i < min N 200) : okO (fun s => mJ T R s + (tnI K N i : Int) ≤ 24) (some (newT rm lg key)) := by
  have h := mJ_le (new_tc B k1 k6 (rm := rm) (lg := lg)) B.t4 B.r8
  have e : tnI K N i = 0 := by unfold tnI; omega
  show mJ T R (newT rm lg key) + (tnI K N i : Int) ≤ 24
  rw [e]; omega
theorem um_own {K a i : Nat} {W : List Int} {c : Nat → Option TS} {s : TS} {st n : Int} {r : TR} (N' : NF T W c) (hc : c a = some s) (C : TC T R n s) (hr : tStep T R (sfT T R s.key) s W st = r) (e0 : ¬ r.s.ph = 0) (m : okO (fun s => mJ T R s + (tnI K N i : Int) ≤ 24) (some s)) : okO (fun s => mJ T R s + (tnI K N (i + 1) : Int) ≤ 24) (some r.s) := by
  have h := mJ_step (st := st) N' hc C (by rw [hr]; exact e0)
  rw [hr] at h
  have m : mJ T R s + (tnI K N i : Int) ≤ 24 := m
  have e : tnI K N (i + 1) ≤ tnI K N i + 1 := by unfold tnI; omega
  show mJ T R r.s + (tnI K N (i + 1) : Int) ≤ 24
  omega
theorem mJ_nn {n : Int} {s : TS} (C : TC T R n s) : 0 ≤ mJ T R s := by
  have := C.f0; have := C.f1
  have := C.it
  unfold mJ
  repeat' split
  all_goals omega
/-- At the end nobody is under way. -/
theorem um_end {K : Nat} {n : Int} {o : Option TS} (hK : K < 3) (C : okO (TC T R n) o) (m : okO (fun s => mJ T R s + (tnI K N (min N 200 + 120) : Int) ≤ 24) o) : o = none := by
  rcases o with _ | s
  · rfl
  · have h := mJ_nn C
    have m : mJ T R s + (tnI K N (min N 200 + 120) : Int) ≤ 24 := m
    have e : tnI K N (min N 200 + 120) = 30 := by unfold tnI; omega
    omega
theorem nf_new {W : List Int} {c : Nat → Option TS} {a : Nat} {rm lg : Bool} {key : Int} (h : NF T W c) : NF T W (upd c a (some (newT rm lg key))) := by
  refine ⟨h.nb, fun b t e h5 => ?_⟩
  by_cases g : b = a
  · subst g; simp only [upd, if_true] at e; cases e; exact absurd h5 (show ¬ (1 : Nat) = 5 by decide)
  · simp only [upd, if_neg g] at e; exact h.s5 b t e h5
theorem um_idle {K : Nat} (h : UInv T R N x) (hi : x.i < min N 200 + 120) (hK : K < 4) (hk : x.i < min N 200 ∨ x.i % 4 = K) (n0 : K = 0 → x.i < min N 200 ∨ x.z.c0 = none) (n1 : K = 1 → x.i < min N 200 ∨ x.z.c1 = none) (n2 : K = 2 → x.i < min N 200 ∨ x.z.c2 = none) : UInv T R N ⟨x.i + 1, x.z, x.L⟩ := by
  have g : ∀ (j : Nat) (o : Option TS), j < 3 → (K = j → x.i < min N 200 ∨ o = none) → okO (fun s => mJ T R s + (tnI j N x.i : Int) ≤ 24) o → okO (fun s => mJ T R s + (tnI j N (x.i + 1) : Int) ≤ 24) o := fun j o hj hn m => by
    rcases o with _ | s
    · trivial
    · have e : tnI j N (x.i + 1) = tnI j N x.i := by
        by_cases q : K = j
        · rcases hn q with q2 | q2
          · unfold tnI; omega
          · cases q2
        · unfold tnI; omega
      rw [e]; exact m
  have b := h.b
  have hl := h.hl
  exact ⟨h.b.mono (by dsimp only; omega) (by dsimp only; omega), okO_mono (by dsimp only; omega) h.c0, okO_mono (by dsimp only; omega) h.c1, okO_mono (by dsimp only; omega) h.c2, h.d, h.nf, h.mg, h.k0, h.k1, h.k2, g 0 _ (by decide) n0 h.m0, g 1 _ (by decide) n1 h.m1, g 2 _ (by decide) n2 h.m2, by dsimp only; omega, by dsimp only; omega⟩
theorem um_begin0 (h : UInv T R N x) (hi : x.i < min N 200) (hc : x.z.c0 = none) {rm lg : Bool} {key : Int} {v : Value} (kq1 : 1 ≤ key) (kq6 : key ≤ 6) : UInv T R N ⟨x.i, ⟨x.z.W, x.z.st, x.z.kd, x.z.wd, x.z.vl, x.z.ch, some (newT rm lg key), x.z.c1, x.z.c2, v, x.z.p1, x.z.p2, key, x.z.k1, x.z.k2⟩, x.L⟩ := by
  have hu := h
  obtain ⟨i, ⟨W, st, kd, wd, vl, ch, c0, c1, c2, p0, p1, p2, k0, k1, k2⟩, L⟩ := x
  dsimp only at hc hi
  subst hc
  obtain ⟨G, q, m⟩ := h.mg
  have dd := new_low (rm := rm) (lg := lg) h.b h.d (a := 0) rfl kq1 kq6
  rw [upd0] at dd
  have mm := mg_new (a := 0) m rfl (rm := rm) (lg := lg) (key := key)
  rw [upd0] at mm
  have nn := nf_new (a := 0) h.nf (rm := rm) (lg := lg) (key := key)
  rw [upd0] at nn
  exact ⟨h.b, new_tc h.b kq1 kq6, h.c1, h.c2, dd, nn, ⟨G, q, mm⟩, rfl, h.k1, h.k2, um_new (K := 0) h.b kq1 kq6 (by omega) hi, h.m1, h.m2, h.hl, h.hi⟩
theorem um_d0 (h : UInv T R N x) (hi : x.i < min N 200 + 120) (hk : x.i < min N 200 ∨ x.i % 4 = 0) {s : TS} (hc : x.z.c0 = some s) {r : TR} (hr : tStep T R (sfT T R s.key) s x.z.W x.z.st = r) (e0 : r.s.ph = 0) : UInv T R N ⟨x.i + 1, ⟨r.W, x.z.st + 1, r.kd, r.wd, r.vl, r.ch, none, x.z.c1, x.z.c2, x.z.p0, x.z.p1, x.z.p2, x.z.k0, x.z.k1, x.z.k2⟩, x.L ++ [evS r.s]⟩ := by
  have b1 := h.b
  obtain ⟨i, ⟨W, st, kd, wd, vl, ch, c0, c1, c2, p0, p1, p2, k0, k1, k2⟩, L⟩ := x
  dsimp only at hc hi hk hr b1
  subst hc
  have ck : TC T R (2 * (i : Int)) s := h.c0
  have hk0 : s.key = k0 := h.k0
  have kk := step_k b1 ck (by omega)
  have dd := h.d.step (a := 0) (R := R) (st := st) rfl
  have nn := nf_step (st := st) (a := 0) h.d h.nf rfl ck
  obtain ⟨G, q, m⟩ := h.mg
  have hl := h.hl
  dsimp only at dd nn m hl
  rw [hr] at kk dd nn
  have mm := mg_step (a := 0) m h.d rfl ck hr.symm kk.key kk.rm
  rw [upd0] at dd nn mm
  rw [if_pos e0] at dd nn; simp only [if_pos e0] at mm
  obtain ⟨G', q', mm⟩ := mm
  exact ⟨kk.b.mono (by dsimp only; omega) (by dsimp only; omega), trivial, okO_mono (by dsimp only; omega) h.c1, okO_mono (by dsimp only; omega) h.c2, dd, nn, ⟨G', q', mm⟩, trivial, h.k1, h.k2, trivial, um_oth (K := 0) (j := 1) hk (by decide) (by decide) (by decide) h.m1, um_oth (K := 0) (j := 2) hk (by decide) (by decide) (by decide) h.m2, by simp only [List.length_append, List.length_singleton]; omega, by dsimp only; omega⟩
theorem um_n0 (h : UInv T R N x) (hi : x.i < min N 200 + 120) (hk : x.i < min N 200 ∨ x.i % 4 = 0) {s : TS} (hc : x.z.c0 = some s) {r : TR} (hr : tStep T R (sfT T R s.key) s x.z.W x.z.st = r) (e0 : ¬ r.s.ph = 0) : UInv T R N ⟨x.i + 1, ⟨r.W, x.z.st + 1, r.kd, r.wd, r.vl, r.ch, some r.s, x.z.c1, x.z.c2, x.z.p0, x.z.p1, x.z.p2, x.z.k0, x.z.k1, x.z.k2⟩, x.L⟩ := by
  have b1 := h.b
  obtain ⟨i, ⟨W, st, kd, wd, vl, ch, c0, c1, c2, p0, p1, p2, k0, k1, k2⟩, L⟩ := x
  dsimp only at hc hi hk hr b1
  subst hc
  have ck : TC T R (2 * (i : Int)) s := h.c0
  have hk0 : s.key = k0 := h.k0
  have kk := step_k b1 ck (by omega)
  have dd := h.d.step (a := 0) (R := R) (st := st) rfl
  have nn := nf_step (st := st) (a := 0) h.d h.nf rfl ck
  obtain ⟨G, q, m⟩ := h.mg
  have hl := h.hl
  dsimp only at dd nn m hl
  rw [hr] at kk dd nn
  have mm := mg_step (a := 0) m h.d rfl ck hr.symm kk.key kk.rm
  rw [upd0] at dd nn mm
  rw [if_neg e0] at dd nn; simp only [if_neg e0] at mm
  obtain ⟨G', q', mm⟩ := mm
  exact ⟨kk.b.mono (by dsimp only; omega) (by dsimp only; omega), (kk.c e0).mono (by dsimp only; omega), okO_mono (by dsimp only; omega) h.c1, okO_mono (by dsimp only; omega) h.c2, dd, nn, ⟨G', q', mm⟩, (kk.key.trans hk0), h.k1, h.k2, um_own (K := 0) h.nf (a := 0) rfl ck hr e0 h.m0, um_oth (K := 0) (j := 1) hk (by decide) (by decide) (by decide) h.m1, um_oth (K := 0) (j := 2) hk (by decide) (by decide) (by decide) h.m2, by dsimp only; omega, by dsimp only; omega⟩
theorem um_begin1 (h : UInv T R N x) (hi : x.i < min N 200) (hc : x.z.c1 = none) {rm lg : Bool} {key : Int} {v : Value} (kq1 : 1 ≤ key) (kq6 : key ≤ 6) : UInv T R N ⟨x.i, ⟨x.z.W, x.z.st, x.z.kd, x.z.wd, x.z.vl, x.z.ch, x.z.c0, some (newT rm lg key), x.z.c2, x.z.p0, v, x.z.p2, x.z.k0, key, x.z.k2⟩, x.L⟩ := by
  have hu := h
  obtain ⟨i, ⟨W, st, kd, wd, vl, ch, c0, c1, c2, p0, p1, p2, k0, k1, k2⟩, L⟩ := x
  dsimp only at hc hi
  subst hc
  obtain ⟨G, q, m⟩ := h.mg
  have dd := new_low (rm := rm) (lg := lg) h.b h.d (a := 1) rfl kq1 kq6
  rw [upd1] at dd
  have mm := mg_new (a := 1) m rfl (rm := rm) (lg := lg) (key := key)
  rw [upd1] at mm
  have nn := nf_new (a := 1) h.nf (rm := rm) (lg := lg) (key := key)
  rw [upd1] at nn
  exact ⟨h.b, h.c0, new_tc h.b kq1 kq6, h.c2, dd, nn, ⟨G, q, mm⟩, h.k0, rfl, h.k2, h.m0, um_new (K := 1) h.b kq1 kq6 (by omega) hi, h.m2, h.hl, h.hi⟩
theorem um_d1 (h : UInv T R N x) (hi : x.i < min N 200 + 120) (hk : x.i < min N 200 ∨ x.i % 4 = 1) {s : TS} (hc : x.z.c1 = some s) {r : TR} (hr : tStep T R (sfT T R s.key) s x.z.W x.z.st = r) (e0 : r.s.ph = 0) : UInv T R N ⟨x.i + 1, ⟨r.W, x.z.st + 1, r.kd, r.wd, r.vl, r.ch, x.z.c0, none, x.z.c2, x.z.p0, x.z.p1, x.z.p2, x.z.k0, x.z.k1, x.z.k2⟩, x.L ++ [evS r.s]⟩ := by
  have b1 := h.b
  obtain ⟨i, ⟨W, st, kd, wd, vl, ch, c0, c1, c2, p0, p1, p2, k0, k1, k2⟩, L⟩ := x
  dsimp only at hc hi hk hr b1
  subst hc
  have ck : TC T R (2 * (i : Int)) s := h.c1
  have hk0 : s.key = k1 := h.k1
  have kk := step_k b1 ck (by omega)
  have dd := h.d.step (a := 1) (R := R) (st := st) rfl
  have nn := nf_step (st := st) (a := 1) h.d h.nf rfl ck
  obtain ⟨G, q, m⟩ := h.mg
  have hl := h.hl
  dsimp only at dd nn m hl
  rw [hr] at kk dd nn
  have mm := mg_step (a := 1) m h.d rfl ck hr.symm kk.key kk.rm
  rw [upd1] at dd nn mm
  rw [if_pos e0] at dd nn; simp only [if_pos e0] at mm
  obtain ⟨G', q', mm⟩ := mm
  exact ⟨kk.b.mono (by dsimp only; omega) (by dsimp only; omega), okO_mono (by dsimp only; omega) h.c0, trivial, okO_mono (by dsimp only; omega) h.c2, dd, nn, ⟨G', q', mm⟩, h.k0, trivial, h.k2, um_oth (K := 1) (j := 0) hk (by decide) (by decide) (by decide) h.m0, trivial, um_oth (K := 1) (j := 2) hk (by decide) (by decide) (by decide) h.m2, by simp only [List.length_append, List.length_singleton]; omega, by dsimp only; omega⟩
theorem um_n1 (h : UInv T R N x) (hi : x.i < min N 200 + 120) (hk : x.i < min N 200 ∨ x.i % 4 = 1) {s : TS} (hc : x.z.c1 = some s) {r : TR} (hr : tStep T R (sfT T R s.key) s x.z.W x.z.st = r) (e0 : ¬ r.s.ph = 0) : UInv T R N ⟨x.i + 1, ⟨r.W, x.z.st + 1, r.kd, r.wd, r.vl, r.ch, x.z.c0, some r.s, x.z.c2, x.z.p0, x.z.p1, x.z.p2, x.z.k0, x.z.k1, x.z.k2⟩, x.L⟩ := by
  have b1 := h.b
  obtain ⟨i, ⟨W, st, kd, wd, vl, ch, c0, c1, c2, p0, p1, p2, k0, k1, k2⟩, L⟩ := x
  dsimp only at hc hi hk hr b1
  subst hc
  have ck : TC T R (2 * (i : Int)) s := h.c1
  have hk0 : s.key = k1 := h.k1
  have kk := step_k b1 ck (by omega)
  have dd := h.d.step (a := 1) (R := R) (st := st) rfl
  have nn := nf_step (st := st) (a := 1) h.d h.nf rfl ck
  obtain ⟨G, q, m⟩ := h.mg
  have hl := h.hl
  dsimp only at dd nn m hl
  rw [hr] at kk dd nn
  have mm := mg_step (a := 1) m h.d rfl ck hr.symm kk.key kk.rm
  rw [upd1] at dd nn mm
  rw [if_neg e0] at dd nn; simp only [if_neg e0] at mm
  obtain ⟨G', q', mm⟩ := mm
  exact ⟨kk.b.mono (by dsimp only; omega) (by dsimp only; omega), okO_mono (by dsimp only; omega) h.c0, (kk.c e0).mono (by dsimp only; omega), okO_mono (by dsimp only; omega) h.c2, dd, nn, ⟨G', q', mm⟩, h.k0, (kk.key.trans hk0), h.k2, um_oth (K := 1) (j := 0) hk (by decide) (by decide) (by decide) h.m0, um_own (K := 1) h.nf (a := 1) rfl ck hr e0 h.m1, um_oth (K := 1) (j := 2) hk (by decide) (by decide) (by decide) h.m2, by dsimp only; omega, by dsimp only; omega⟩
theorem um_begin2 (h : UInv T R N x) (hi : x.i < min N 200) (hc : x.z.c2 = none) {rm lg : Bool} {key : Int} {v : Value} (kq1 : 1 ≤ key) (kq6 : key ≤ 6) : UInv T R N ⟨x.i, ⟨x.z.W, x.z.st, x.z.kd, x.z.wd, x.z.vl, x.z.ch, x.z.c0, x.z.c1, some (newT rm lg key), x.z.p0, x.z.p1, v, x.z.k0, x.z.k1, key⟩, x.L⟩ := by
  have hu := h
  obtain ⟨i, ⟨W, st, kd, wd, vl, ch, c0, c1, c2, p0, p1, p2, k0, k1, k2⟩, L⟩ := x
  dsimp only at hc hi
  subst hc
  obtain ⟨G, q, m⟩ := h.mg
  have dd := new_low (rm := rm) (lg := lg) h.b h.d (a := 2) rfl kq1 kq6
  rw [upd2] at dd
  have mm := mg_new (a := 2) m rfl (rm := rm) (lg := lg) (key := key)
  rw [upd2] at mm
  have nn := nf_new (a := 2) h.nf (rm := rm) (lg := lg) (key := key)
  rw [upd2] at nn
  exact ⟨h.b, h.c0, h.c1, new_tc h.b kq1 kq6, dd, nn, ⟨G, q, mm⟩, h.k0, h.k1, rfl, h.m0, h.m1, um_new (K := 2) h.b kq1 kq6 (by omega) hi, h.hl, h.hi⟩
theorem um_d2 (h : UInv T R N x) (hi : x.i < min N 200 + 120) (hk : x.i < min N 200 ∨ x.i % 4 = 2) {s : TS} (hc : x.z.c2 = some s) {r : TR} (hr : tStep T R (sfT T R s.key) s x.z.W x.z.st = r) (e0 : r.s.ph = 0) : UInv T R N ⟨x.i + 1, ⟨r.W, x.z.st + 1, r.kd, r.wd, r.vl, r.ch, x.z.c0, x.z.c1, none, x.z.p0, x.z.p1, x.z.p2, x.z.k0, x.z.k1, x.z.k2⟩, x.L ++ [evS r.s]⟩ := by
  have b1 := h.b
  obtain ⟨i, ⟨W, st, kd, wd, vl, ch, c0, c1, c2, p0, p1, p2, k0, k1, k2⟩, L⟩ := x
  dsimp only at hc hi hk hr b1
  subst hc
  have ck : TC T R (2 * (i : Int)) s := h.c2
  have hk0 : s.key = k2 := h.k2
  have kk := step_k b1 ck (by omega)
  have dd := h.d.step (a := 2) (R := R) (st := st) rfl
  have nn := nf_step (st := st) (a := 2) h.d h.nf rfl ck
  obtain ⟨G, q, m⟩ := h.mg
  have hl := h.hl
  dsimp only at dd nn m hl
  rw [hr] at kk dd nn
  have mm := mg_step (a := 2) m h.d rfl ck hr.symm kk.key kk.rm
  rw [upd2] at dd nn mm
  rw [if_pos e0] at dd nn; simp only [if_pos e0] at mm
  obtain ⟨G', q', mm⟩ := mm
  exact ⟨kk.b.mono (by dsimp only; omega) (by dsimp only; omega), okO_mono (by dsimp only; omega) h.c0, okO_mono (by dsimp only; omega) h.c1, trivial, dd, nn, ⟨G', q', mm⟩, h.k0, h.k1, trivial, um_oth (K := 2) (j := 0) hk (by decide) (by decide) (by decide) h.m0, um_oth (K := 2) (j := 1) hk (by decide) (by decide) (by decide) h.m1, trivial, by simp only [List.length_append, List.length_singleton]; omega, by dsimp only; omega⟩
theorem um_n2 (h : UInv T R N x) (hi : x.i < min N 200 + 120) (hk : x.i < min N 200 ∨ x.i % 4 = 2) {s : TS} (hc : x.z.c2 = some s) {r : TR} (hr : tStep T R (sfT T R s.key) s x.z.W x.z.st = r) (e0 : ¬ r.s.ph = 0) : UInv T R N ⟨x.i + 1, ⟨r.W, x.z.st + 1, r.kd, r.wd, r.vl, r.ch, x.z.c0, x.z.c1, some r.s, x.z.p0, x.z.p1, x.z.p2, x.z.k0, x.z.k1, x.z.k2⟩, x.L⟩ := by
  have b1 := h.b
  obtain ⟨i, ⟨W, st, kd, wd, vl, ch, c0, c1, c2, p0, p1, p2, k0, k1, k2⟩, L⟩ := x
  dsimp only at hc hi hk hr b1
  subst hc
  have ck : TC T R (2 * (i : Int)) s := h.c2
  have hk0 : s.key = k2 := h.k2
  have kk := step_k b1 ck (by omega)
  have dd := h.d.step (a := 2) (R := R) (st := st) rfl
  have nn := nf_step (st := st) (a := 2) h.d h.nf rfl ck
  obtain ⟨G, q, m⟩ := h.mg
  have hl := h.hl
  dsimp only at dd nn m hl
  rw [hr] at kk dd nn
  have mm := mg_step (a := 2) m h.d rfl ck hr.symm kk.key kk.rm
  rw [upd2] at dd nn mm
  rw [if_neg e0] at dd nn; simp only [if_neg e0] at mm
  obtain ⟨G', q', mm⟩ := mm
  exact ⟨kk.b.mono (by dsimp only; omega) (by dsimp only; omega), okO_mono (by dsimp only; omega) h.c0, okO_mono (by dsimp only; omega) h.c1, (kk.c e0).mono (by dsimp only; omega), dd, nn, ⟨G', q', mm⟩, h.k0, h.k1, (kk.key.trans hk0), um_oth (K := 2) (j := 0) hk (by decide) (by decide) (by decide) h.m0, um_oth (K := 2) (j := 1) hk (by decide) (by decide) (by decide) h.m1, um_own (K := 2) h.nf (a := 2) rfl ck hr e0 h.m2, by dsimp only; omega, by dsimp only; omega⟩
theorem andI {i : Nat} (h : i < 100000) : ibits .and .i64 (i : Int) 3 = ((i % 4 : Nat) : Int) := by
  have h1 : (BitVec.ofInt 64 (i : Int) &&& BitVec.ofInt 64 3).toNat = i % 4 := by
    have := ofInt_nat (x := 3) (by decide)
    rw [BitVec.toNat_and, ofInt_nat (by omega)]
    rw [show BitVec.ofInt 64 3 = BitVec.ofInt 64 ((3 : Nat) : Int) from rfl, this]
    exact Nat.and_two_pow_sub_one_eq_mod i 2
  show IntKind.i64.wrap ((BitVec.ofInt 64 (i : Int) &&& BitVec.ofInt 64 3).toNat : Int) = _
  rw [h1, wi64 (by omega) (by omega)]
end
section
abbrev UJ (p : UP) (T : Nat) (R : Int) (N cap : Nat) (o : Nat → Int × Int × Bool × Bool) (x : US) (ρ : Nat → Nat × Nat) (w : World) (I : Act → World → Prop) : Prop :=
  ∀ x', UInv T R N x' → x'.i = x.i + 1 → ∀ cs TT H, Sub (FEnv Tryz.prog (XTu p).TE (hXTu p).te Tryz.f11 Tryz.f11.ntmps [.obj (.rows N 4 (actR o)), pinE RTV] (Is .tt [.obj (.rows N 4 (actR o)), pinE RTV]) ρ w) TT H (umT N cap x') (umH N o T R x') →
    SS (hXTu p) (At ρ w) (Is .tt [.obj (.rows N 4 (actR o)), pinE RTV]) ⟨cs, [], Tryz.f11, Tryz.f11.ntmps, [.obj (.rows N 4 (actR o)), pinE RTV], downLp (contF Tryz.f11 9 [I]), TT, H⟩
abbrev UG (p : UP) (T : Nat) (R : Int) (N cap : Nat) (o : Nat → Int × Int × Bool × Bool) (x : US) (ρ : Nat → Nat × Nat) (w : World) (I : Act → World → Prop) : Prop :=
  SS (hXTu p) (At ρ w) (Is .tt [.obj (.rows N 4 (actR o)), pinE RTV]) ⟨[], [], Tryz.f11, Tryz.f11.ntmps, [.obj (.rows N 4 (actR o)), pinE RTV], contF Tryz.f11 9 [I], umT N cap x, umH N o T R x⟩
/-- Where a client has its turn. -/
abbrev UK (p : UP) (K : Nat) (T : Nat) (R : Int) (N cap : Nat) (o : Nat → Int × Int × Bool × Bool) (x : US) (ρ : Nat → Nat × Nat) (w : World) (I : Act → World → Prop) : Prop :=
  SS (hXTu p) (At ρ w) (Is .tt [.obj (.rows N 4 (actR o)), pinE RTV]) ⟨[], [], Tryz.f11, Tryz.f11.ntmps, [.obj (.rows N 4 (actR o)), pinE RTV], contF Tryz.f11 19 [I], umK K N cap x, umH N o T R x⟩
end
def t00 : TS := newT false false 1
def r00 : TR := ⟨t00, [], 0, 0, 0, false⟩
end Go.Proofs.YtkkddjchkkaagaaGreatDoor
