/- TopicsEpochs: rows: a run is made; a run that is done does nothing. -/
import Derived.Test.YtkkddjchkkaagaaGreatDoorWorld
namespace Go.Proofs.YtkkddjchkkaagaaGreatDoor
open Go Go.Hx
set_option maxRecDepth 8000
section
variable {T : Nat} {R : Int} {key : Int}

theorem sim_hlV {rm : Bool} {a a' : Nat} {σ : Nat → Nat} (h : σ a = a') : sim (hlV rm a') ((hlV rm a).ren σ) := by subst h; rw [ren_hlV]; exact sim_refl _
theorem clZ {P : Prop} (h : P := by repeat' (first | exact rfl | exact trivial | exact sim_refl _ | exact sim_erV | exact okP_erV | exact sim_hlV rfl | exact okP_hlV rfl | refine And.intro ?_ ?_)) : P := h
set_option maxHeartbeats 4000000 in
theorem newR_fn (t1 : 1 ≤ T) (t4 : T ≤ 4) (r1 : 1 ≤ R) (r8 : R ≤ 8) (k1 : 1 ≤ key) (k6 : key ≤ 6) : Gives Tryz.prog 61 [C9 (T : Int) 4 1 4 4 1 6 0 R, .int .i64 key] []
    (Is (.ptr 1 0) [.obj (hoC (T : Int) R 1 0 (newT true false key)), .obj (ruC 0 (newT true false key))]) := by
  have hr := right_TR t1 t4 r1 r8
  have k6' : key ≤ 2147483647 := by omega
  have hs := (start_nn hr k1 k6').1
  have hs' : ¬ startV (T : Int) 4 1 4 4 1 6 0 R key = -1 := by omega
  refine gives_x hXTx (fn := Tryz.f61) rfl rfl rfl rfl fun ρ w => ?_
  refine sx hXTx [] 4000 rfl (by (simp [-List.getD_eq_getElem?_getD, -List.length_eq_zero_iff, conjP])) ?_
  refine sx hXTx [.F] 4000 rfl (by (simp [-List.getD_eq_getElem?_getD, -List.length_eq_zero_iff, conjP, addOP, hs'])) ?_
  (exact ss_end hXTx [1, 2] rfl rfl trivial rfl rfl rfl rfl (by (repeat' (first | exact rfl | exact trivial | exact sim_refl _ | refine And.intro ?_ ?_))) (by (repeat' (first | exact rfl | exact trivial | exact sim_refl _ | refine And.intro ?_ ?_))) (by (repeat' (first | exact rfl | exact trivial | exact sim_refl _ | refine And.intro ?_ ?_))) (by (repeat' (first | exact rfl | exact trivial | exact sim_refl _ | refine And.intro ?_ ?_))))
def newRS (T : Nat) : Hx.Spec := fun args H => match args with
  | [.agg [.int .i64 t, .int .i64 a1, .int .i64 a2, .int .i64 a3, .int .i64 a4, .int .i64 a5, .int .i64 a6, .int .i64 a7, .int .i64 R], .int .i64 key] => match nums[H.length]?, nums[H.length + 1]? with
    | some n0, some n1 => some ([t = (T : Int), C9 t a1 a2 a3 a4 a5 a6 a7 R = C9 t 4 1 4 4 1 6 0 R, 1 ≤ T, T ≤ 4, 1 ≤ R, R ≤ 8, 1 ≤ key, key ≤ 6], .ptr n1 0, H ++ [.obj (hoC (T : Int) R n1 n0 (newT true false key)), .obj (ruC n0 (newT true false key))])
    | _, _ => none
  | _ => none
theorem newRS_ok {T : Nat} {args : List SV} {H : List HE} {ob : List Prop} {V : SV} {L : List HE} (hs : newRS T args H = some (ob, V, L)) (ho : AllP ob) : Gives Tryz.prog 61 args H (Is V L) := by
  unfold newRS at hs
  split at hs
  case h_2 => simp at hs
  split at hs
  case h_2 => simp at hs
  rename_i _ _ t0 t1
  have t0' := nums_get _ _ t0
  have t1' := nums_get _ _ t1
  subst t0'; subst t1'
  simp only [Option.some.injEq, Prod.mk.injEq] at hs
  obtain ⟨rfl, rfl, rfl⟩ := hs
  simp only [AllP, List.mem_cons, List.not_mem_nil, or_false, forall_eq_or_imp, forall_eq] at ho
  obtain ⟨rfl, q1, g1, g2, g3, g4, g5, g6⟩ := ho
  obtain ⟨rfl, rfl, rfl, rfl, rfl, rfl, rfl⟩ := C9_inj q1
  exact frame0 (H := H) (N := [_, _]) ⟨_, hTE⟩ (newR_fn g1 g2 g3 g4 g5 g6) rfl rfl
set_option maxHeartbeats 4000000 in
theorem newC_fn {lg : Bool} (t1 : 1 ≤ T) (t4 : T ≤ 4) (r1 : 1 ≤ R) (r8 : R ≤ 8) (k1 : 1 ≤ key) (k6 : key ≤ 6) : Gives Tryz.prog 63 [C9 (T : Int) 4 1 4 4 1 6 0 R, .int .i64 key, .bool lg] []
    (Is (.ptr 1 0) [.obj (hoC (T : Int) R 1 0 (newT false lg key)), .obj (ruC 0 (newT false lg key))]) := by
  have hr := right_TR t1 t4 r1 r8
  have k6' : key ≤ 2147483647 := by omega
  have hs := (start_nn hr k1 k6').1
  have hs' : ¬ startV (T : Int) 4 1 4 4 1 6 0 R key = -1 := by omega
  refine gives_x hXTx (fn := Tryz.f63) rfl rfl rfl rfl fun ρ w => ?_
  refine sx hXTx [] 4000 rfl (by (simp [-List.getD_eq_getElem?_getD, -List.length_eq_zero_iff, conjP])) ?_
  refine sx hXTx [.F] 4000 rfl (by (simp [-List.getD_eq_getElem?_getD, -List.length_eq_zero_iff, conjP, addOP, hs'])) ?_
  (exact ss_end hXTx [1, 2] rfl rfl trivial rfl rfl rfl rfl (by (repeat' (first | exact rfl | exact trivial | exact sim_refl _ | refine And.intro ?_ ?_))) (by (repeat' (first | exact rfl | exact trivial | exact sim_refl _ | refine And.intro ?_ ?_))) (by (repeat' (first | exact rfl | exact trivial | exact sim_refl _ | refine And.intro ?_ ?_))) (by (repeat' (first | exact rfl | exact trivial | exact sim_refl _ | refine And.intro ?_ ?_))))
def newCS (T : Nat) : Hx.Spec := fun args H => match args with
  | [.agg [.int .i64 t, .int .i64 a1, .int .i64 a2, .int .i64 a3, .int .i64 a4, .int .i64 a5, .int .i64 a6, .int .i64 a7, .int .i64 R], .int .i64 key, .bool lg] => match nums[H.length]?, nums[H.length + 1]? with
    | some n0, some n1 => some ([t = (T : Int), C9 t a1 a2 a3 a4 a5 a6 a7 R = C9 t 4 1 4 4 1 6 0 R, 1 ≤ T, T ≤ 4, 1 ≤ R, R ≤ 8, 1 ≤ key, key ≤ 6], .ptr n1 0, H ++ [.obj (hoC (T : Int) R n1 n0 (newT false lg key)), .obj (ruC n0 (newT false lg key))])
    | _, _ => none
  | _ => none
theorem newCS_ok {T : Nat} {args : List SV} {H : List HE} {ob : List Prop} {V : SV} {L : List HE} (hs : newCS T args H = some (ob, V, L)) (ho : AllP ob) : Gives Tryz.prog 63 args H (Is V L) := by
  unfold newCS at hs
  split at hs
  case h_2 => simp at hs
  split at hs
  case h_2 => simp at hs
  rename_i _ _ t0 t1
  have t0' := nums_get _ _ t0
  have t1' := nums_get _ _ t1
  subst t0'; subst t1'
  simp only [Option.some.injEq, Prod.mk.injEq] at hs
  obtain ⟨rfl, rfl, rfl⟩ := hs
  simp only [AllP, List.mem_cons, List.not_mem_nil, or_false, forall_eq_or_imp, forall_eq] at ho
  obtain ⟨rfl, q1, g1, g2, g3, g4, g5, g6⟩ := ho
  obtain ⟨rfl, rfl, rfl, rfl, rfl, rfl, rfl⟩ := C9_inj q1
  exact frame0 (H := H) (N := [_, _]) ⟨_, hTE⟩ (newC_fn g1 g2 g3 g4 g5 g6) rfl rfl
set_option maxHeartbeats 4000000 in
theorem zstr_fn {lg : Bool} {key : Int} {seq : Int} {j0 : Nat} {fd : Int} {hd : Bool} {tm er pl sn fl bk ep tp : Int} {tl : Bool} {W : List Int} {st kd wd vl : Int} {ch : Bool} : Gives Tryz.prog 56 [.ptr 0 0, .ptr 2 0] [.obj (ruC 1 ⟨true, lg, key, 0, seq, j0, fd, hd, tm, er, pl, sn, fl, bk, ep, tp, tl⟩), .obj (hoC (T : Int) R 0 1 ⟨true, lg, key, 0, seq, j0, fd, hd, tm, er, pl, sn, fl, bk, ep, tp, tl⟩), AOx 3 W st kd wd vl ch, WO W] (Is .tt [.obj (ruC 1 ⟨true, lg, key, 0, seq, j0, fd, hd, tm, er, pl, sn, fl, bk, ep, tp, tl⟩), .obj (hoC (T : Int) R 0 1 ⟨true, lg, key, 0, seq, j0, fd, hd, tm, er, pl, sn, fl, bk, ep, tp, tl⟩), AOx 3 W st kd wd vl ch, WO W]) := by
  refine gives_x hXTx (fn := Tryz.f56) rfl rfl rfl rfl fun ρ w => ?_
  dsimp only [ruC, hoC, nxV, cond_true, cond_false]
  refine sx hXTx [] 4000 rfl (by (simp [-List.getD_eq_getElem?_getD, -List.length_eq_zero_iff, conjP])) ?_
  (refine ss_end hXTx [0, 1, 2, 3] rfl rfl trivial rfl rfl rfl rfl ?hv ?hh ?hk ?ho; (case hv => exact clZ); (case hh => exact clZ); (case hk => exact clZ); (case ho => exact clZ))
set_option maxHeartbeats 4000000 in
theorem zstc_fn {lg : Bool} {key : Int} {seq : Int} {j0 : Nat} {fd : Int} {hd : Bool} {tm er pl sn fl bk ep tp : Int} {tl : Bool} {W : List Int} {st kd wd vl : Int} {ch : Bool} : Gives Tryz.prog 55 [.ptr 0 0, .ptr 2 0] [.obj (ruC 1 ⟨false, lg, key, 0, seq, j0, fd, hd, tm, er, pl, sn, fl, bk, ep, tp, tl⟩), .obj (hoC (T : Int) R 0 1 ⟨false, lg, key, 0, seq, j0, fd, hd, tm, er, pl, sn, fl, bk, ep, tp, tl⟩), AOx 3 W st kd wd vl ch, WO W] (Is .tt [.obj (ruC 1 ⟨false, lg, key, 0, seq, j0, fd, hd, tm, er, pl, sn, fl, bk, ep, tp, tl⟩), .obj (hoC (T : Int) R 0 1 ⟨false, lg, key, 0, seq, j0, fd, hd, tm, er, pl, sn, fl, bk, ep, tp, tl⟩), AOx 3 W st kd wd vl ch, WO W]) := by
  refine gives_x hXTx (fn := Tryz.f55) rfl rfl rfl rfl fun ρ w => ?_
  dsimp only [ruC, hoC, nxV, cond_true, cond_false]
  refine sx hXTx [] 4000 rfl (by (simp [-List.getD_eq_getElem?_getD, -List.length_eq_zero_iff, conjP])) ?_
  (refine ss_end hXTx [0, 1, 2, 3] rfl rfl trivial rfl rfl rfl rfl ?hv ?hh ?hk ?ho; (case hv => exact clZ); (case hh => exact clZ); (case hk => exact clZ); (case ho => exact clZ))
end
/-- A step of a run that is under way, or done (dn). -/
def tStC (dn rm : Bool) (T : Nat) (R : Int) (start : Nat) (s : TS) (r : TR) : Hx.Spec := match dn with
  | false => tStS rm T R start s r
  | true => fun args H => match args with
    | [.ptr h 0, .ptr ha 0] => match getH H h, arP H ha with
      | some (.cells (.ptr hh 0 :: vs) ty), some (hw, ⟨W, st, kd, wd, vl, ch⟩, ob) => match getH H hh, nodupN [h, hh, ha, hw] with
        | some o2, true => some ((s.rm = rm) :: (s.ph = 0) :: (SO.cells (.ptr hh 0 :: vs) ty = ruC hh s) :: (o2 = hoC (T : Int) R h hh s) :: ob, .tt,
            (((H.set h (.obj (ruC hh s))).set hh (.obj (hoC (T : Int) R h hh s))).set ha (AOx hw W st kd wd vl ch)).set hw (WO W))
        | _, _ => none
      | _, _ => none
    | _ => none
set_option maxHeartbeats 4000000 in
theorem tStC_ok {dn rm : Bool} {T : Nat} {R : Int} {start : Nat} {s : TS} {r : TR} {args : List SV} {H : List HE} {ob : List Prop} {V : SV} {L : List HE} (hs : tStC dn rm T R start s r args H = some (ob, V, L)) (ho : AllP ob) : Gives Tryz.prog (stF rm) args H (Is V L) := by
  rcases dn with _ | _
  · exact tStS_ok hs ho
  · unfold tStC at hs
    dsimp only at hs
    split at hs
    case h_2 => simp at hs
    rename_i _ h ha
    split at hs
    case h_2 => simp at hs
    rename_i _ _ hh vs ty hw W st kd wd vl ch ob' hg hp
    split at hs
    case h_2 => simp at hs
    rename_i _ _ o2 hg2 hnd
    simp only [Option.some.injEq, Prod.mk.injEq] at hs
    obtain ⟨rfl, rfl, rfl⟩ := hs
    have o1 := ho _ (List.mem_cons_self ..)
    have o2' := ho _ (List.mem_cons_of_mem _ (List.mem_cons_self ..))
    have o3 := ho _ (List.mem_cons_of_mem _ (List.mem_cons_of_mem _ (List.mem_cons_self ..)))
    have o4 := ho _ (List.mem_cons_of_mem _ (List.mem_cons_of_mem _ (List.mem_cons_of_mem _ (List.mem_cons_self ..))))
    obtain ⟨g1, g2, g3⟩ := arP_get hp (fun q hq => ho q (List.mem_cons_of_mem _ (List.mem_cons_of_mem _ (List.mem_cons_of_mem _ (List.mem_cons_of_mem _ hq)))))
    rw [o3] at hg
    subst o4
    have key2 : Gives Tryz.prog (stF rm) [.ptr 0 0, .ptr 2 0] [.obj (ruC 1 s), .obj (hoC (T : Int) R 0 1 s), AOx 3 W st kd wd vl ch, WO W] (Is .tt [.obj (ruC 1 s), .obj (hoC (T : Int) R 0 1 s), AOx 3 W st kd wd vl ch, WO W]) := by
      obtain ⟨rm', lg, key, ph, seq, i, fd, hd, tm, er, pl, sn, fl, bk, ep, tp, tl⟩ := s
      dsimp only at o1 o2'
      subst o1; subst o2'
      cases rm'
      · exact zstc_fn
      · exact zstr_fn
    have key3 := frame4 (N := []) (H := H) (h0 := h) (h1 := hh) (h2 := ha) (h3 := hw) (ags := [.ptr h 0, .ptr ha 0]) ⟨_, hTE⟩ key2 rfl rfl (by
        have e1 : (ruC 1 s).okh (there [.obj (ruC 1 s), .obj (hoC (T : Int) R 0 1 s), AOx 3 W st kd wd vl ch, WO W]) = true := okh_ruC rfl
        have e2 : (hoC (T : Int) R 0 1 s).okh (there [.obj (ruC 1 s), .obj (hoC (T : Int) R 0 1 s), AOx 3 W st kd wd vl ch, WO W]) = true := okh_hoC rfl rfl
        simp only [okHs, e1, e2, Bool.true_and]
        rfl) hnd
      (by rw [ren_ruC]; exact hg) (by rw [ren_hoC]; exact hg2) g1 g2 rfl
    rw [ren_ruC, ren_hoC] at key3
    simp only [List.map_nil, List.append_nil] at key3
    exact key3
end Go.Proofs.YtkkddjchkkaagaaGreatDoor
