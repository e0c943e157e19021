/- Steps, beginnings, words that are Busy from now on: as rows of the table. -/
import Derived.Test.YtkkddjchkkaagaaGreatDoorStepAll
namespace Go.Proofs.YtkkddjchkkaagaaGreatDoor
open Go Go.Hx
set_option maxRecDepth 8000
def ctTx : Nat → Option Hx.Spec
  | 84 => some (pureS startS)
  | 110 => some (pureS rstartS)
  | 60 => some (pureS runpkS)
  | 43 => some (pureS rcpkS)
  | 45 => some (pureS (placeS ctlF))
  | _ => none
theorem ctTx_ok : ∀ f s args H ob V L, ctTx f = some s → s args H = some (ob, V, L) → AllP ob → Gives Tryz.prog f args H (Is V L) := by
  intro f s args H ob V L h hs ho
  unfold ctTx at h
  split at h
  · simp at h; subst h; exact pureS_ok ⟨_, hTE⟩ (startS_ok) hs ho
  · simp at h; subst h; exact pureS_ok ⟨_, hTE⟩ (rstartS_ok) hs ho
  · simp at h; subst h; exact pureS_ok ⟨_, hTE⟩ (runpkS_ok) hs ho
  · simp at h; subst h; exact pureS_ok ⟨_, hTE⟩ (rcpkS_ok) hs ho
  · simp at h; subst h; exact pureS_ok ⟨_, hTE⟩ (placeS_ok (v := ctlF) rctl_fn) hs ho
  · simp at h
noncomputable def XTx : Tabs := tabs tr ft xt (fun _ => none) ctTx 20
theorem hXTx : TOk Tryz.prog (XTx) := ⟨hTE, hFT, ctTx_ok, hXT, fun t ks h => by simp [XTx, tabs] at h, mixed⟩
def clO (a b : SV) (p : Value) (k : Int) : SO := .cells [a, b, .raw p, .int .i64 k] 96
def newT (rm lg : Bool) (key : Int) : TS := ⟨rm, lg, key, 1, 0, 0, 0, false, 0, 0, if rm then 0 else -1, 0, 0, 0, 0, 0, false⟩
abbrev AC (a b : Int) (x : Bool) (y : SV) : SV := .agg [.int .i64 a, .int .i64 b, .bool x, y]
/-- The document's run. -/
def drC (T R : Int) (s : TS) (dp : Int) : SO := .cells [.int .i64 T, .int .i64 4, .int .i64 1, .int .i64 4, .int .i64 4, .int .i64 1, .int .i64 6, .int .i64 0, .int .i64 R, .int .i64 s.key, .int .i64 (s.ph : Int), .int .i64 (s.i : Int), .int .i64 dp, .int .i64 s.fd, .int .i64 s.fl, .bool s.lg, .bool s.rm, .bool s.hd, .int .u64 s.seq, .int .u64 s.sn, .int .i64 s.tp, .int .i64 s.ep, .bool s.tl, .int .i64 s.bk, .int .i64 s.tm, .int .i64 s.er] 171
section
variable {T : Nat} {R a b : Int} {p : Value} {k : Int}

set_option maxHeartbeats 4000000 in
theorem begR_fn {lg : Bool} (t1 : 1 ≤ T) (t4 : T ≤ 4) (r1 : 1 ≤ R) (r8 : R ≤ 8) : Gives Tryz.prog 54 [.ptr 0 0, C9 (T : Int) 4 1 4 4 1 6 0 R, AC a b true (.bool lg)] [.obj (clO .nilptr .nilptr p k)]
    (Is (.tup []) [.obj (.cells [.nilptr, .ptr 2 0, .ptr 3 0, .int .i64 (cRem 1 6 b)] 96), .obj (hoC (T : Int) R 2 1 (newT true lg (cRem 1 6 b))), .obj (ruC 1 (newT true lg (cRem 1 6 b))), .obj (drC (T : Int) R (newT true lg (cRem 1 6 b)) 0)]) := by
  have hr := right_TR t1 t4 r1 r8
  obtain ⟨k1, k6⟩ := cRemB 1 6 b (by decide) (by decide) (by decide) (by decide)
  have k6' : cRem 1 6 b ≤ 2147483647 := by omega
  have hs := (start_nn hr k1 k6').1
  have hs' : ¬ startV (T : Int) 4 1 4 4 1 6 0 R (cRem 1 6 b) = -1 := by omega
  have hs2 : ¬ startV (T : Int) 4 1 4 4 1 6 0 R (cRem 1 6 b) < 0 := by omega
  have ek : cRem 1 6 b = IntKind.i64.wrap (1 + (IntKind.i64.wrap (b.tmod 6 + 6)).tmod 6) := rfl
  refine gives_x hXTx (fn := Tryz.f54) rfl rfl rfl rfl fun ρ w => ?_
  dsimp only [clO]
  refine sx hXTx [] 4000 rfl (by (simp [-List.getD_eq_getElem?_getD, -List.length_eq_zero_iff, conjP])) ?_
  refine sx hXTx [.T] 4000 rfl (by (simp [-List.getD_eq_getElem?_getD, -List.length_eq_zero_iff, conjP, addOP])) ?_
  refine sx hXTx [.F] 4000 rfl (by (simp [-List.getD_eq_getElem?_getD, -List.length_eq_zero_iff, conjP, hs', ← ek])) ?_
  refine sx hXTx [.K, .K, .F] 4000 rfl (by (simp [-List.getD_eq_getElem?_getD, -List.length_eq_zero_iff, conjP, hr, k1, k6', hs2, ← ek])) ?_
  (exact ss_end hXTx [0, 4, 5, 7] rfl rfl trivial rfl rfl rfl rfl (by (repeat' (first | exact rfl | exact trivial | exact sim_refl _ | refine And.intro ?_ ?_))) (by (repeat' (first | exact rfl | exact trivial | exact sim_refl _ | refine And.intro ?_ ?_))) (by (repeat' (first | exact rfl | exact trivial | exact sim_refl _ | refine And.intro ?_ ?_))) (by (repeat' (first | exact rfl | exact trivial | exact sim_refl _ | refine And.intro ?_ ?_))))
set_option maxHeartbeats 4000000 in
theorem begR0_fn (t1 : 1 ≤ T) (t4 : T ≤ 4) (r1 : 1 ≤ R) (r8 : R ≤ 8) : Gives Tryz.prog 54 [.ptr 0 0, C9 (T : Int) 4 1 4 4 1 6 0 R, AC a b true (.ff)] [.obj (clO .nilptr .nilptr p k)]
    (Is (.tup []) [.obj (.cells [.nilptr, .ptr 2 0, .ptr 3 0, .int .i64 (cRem 1 6 b)] 96), .obj (hoC (T : Int) R 2 1 (newT true false (cRem 1 6 b))), .obj (ruC 1 (newT true false (cRem 1 6 b))), .obj (drC (T : Int) R (newT true false (cRem 1 6 b)) 0)]) := by
  have hr := right_TR t1 t4 r1 r8
  obtain ⟨k1, k6⟩ := cRemB 1 6 b (by decide) (by decide) (by decide) (by decide)
  have k6' : cRem 1 6 b ≤ 2147483647 := by omega
  have hs := (start_nn hr k1 k6').1
  have hs' : ¬ startV (T : Int) 4 1 4 4 1 6 0 R (cRem 1 6 b) = -1 := by omega
  have hs2 : ¬ startV (T : Int) 4 1 4 4 1 6 0 R (cRem 1 6 b) < 0 := by omega
  have ek : cRem 1 6 b = IntKind.i64.wrap (1 + (IntKind.i64.wrap (b.tmod 6 + 6)).tmod 6) := rfl
  refine gives_x hXTx (fn := Tryz.f54) rfl rfl rfl rfl fun ρ w => ?_
  dsimp only [clO]
  refine sx hXTx [] 4000 rfl (by (simp [-List.getD_eq_getElem?_getD, -List.length_eq_zero_iff, conjP])) ?_
  refine sx hXTx [.T] 4000 rfl (by (simp [-List.getD_eq_getElem?_getD, -List.length_eq_zero_iff, conjP, addOP])) ?_
  refine sx hXTx [.F] 4000 rfl (by (simp [-List.getD_eq_getElem?_getD, -List.length_eq_zero_iff, conjP, hs', ← ek])) ?_
  refine sx hXTx [.K, .F] 4000 rfl (by (simp [-List.getD_eq_getElem?_getD, -List.length_eq_zero_iff, conjP, hr, k1, k6', hs2, ← ek])) ?_
  (exact ss_end hXTx [0, 4, 5, 7] rfl rfl trivial rfl rfl rfl rfl (by (repeat' (first | exact rfl | exact trivial | exact sim_refl _ | refine And.intro ?_ ?_))) (by (repeat' (first | exact rfl | exact trivial | exact sim_refl _ | refine And.intro ?_ ?_))) (by (repeat' (first | exact rfl | exact trivial | exact sim_refl _ | refine And.intro ?_ ?_))) (by (repeat' (first | exact rfl | exact trivial | exact sim_refl _ | refine And.intro ?_ ?_))))
set_option maxHeartbeats 4000000 in
theorem begC_fn {lg : Bool} (t1 : 1 ≤ T) (t4 : T ≤ 4) (r1 : 1 ≤ R) (r8 : R ≤ 8) : Gives Tryz.prog 54 [.ptr 0 0, C9 (T : Int) 4 1 4 4 1 6 0 R, AC a b false (.bool lg)] [.obj (clO .nilptr .nilptr p k)]
    (Is (.tup []) [.obj (.cells [.ptr 2 0, .nilptr, .ptr 3 0, .int .i64 (cRem 1 6 b)] 96), .obj (hoC (T : Int) R 2 1 (newT false lg (cRem 1 6 b))), .obj (ruC 1 (newT false lg (cRem 1 6 b))), .obj (drC (T : Int) R (newT false lg (cRem 1 6 b)) 0)]) := by
  have hr := right_TR t1 t4 r1 r8
  obtain ⟨k1, k6⟩ := cRemB 1 6 b (by decide) (by decide) (by decide) (by decide)
  have k6' : cRem 1 6 b ≤ 2147483647 := by omega
  have hs := (start_nn hr k1 k6').1
  have hs' : ¬ startV (T : Int) 4 1 4 4 1 6 0 R (cRem 1 6 b) = -1 := by omega
  have hs2 : ¬ startV (T : Int) 4 1 4 4 1 6 0 R (cRem 1 6 b) < 0 := by omega
  have ek : cRem 1 6 b = IntKind.i64.wrap (1 + (IntKind.i64.wrap (b.tmod 6 + 6)).tmod 6) := rfl
  refine gives_x hXTx (fn := Tryz.f54) rfl rfl rfl rfl fun ρ w => ?_
  dsimp only [clO]
  refine sx hXTx [] 4000 rfl (by (simp [-List.getD_eq_getElem?_getD, -List.length_eq_zero_iff, conjP])) ?_
  refine sx hXTx [.F] 4000 rfl (by (simp [-List.getD_eq_getElem?_getD, -List.length_eq_zero_iff, conjP, addOP])) ?_
  refine sx hXTx [.K, .F] 4000 rfl (by (simp [-List.getD_eq_getElem?_getD, -List.length_eq_zero_iff, conjP, hs', ← ek])) ?_
  refine sx hXTx [.K, .K, .F] 4000 rfl (by (simp [-List.getD_eq_getElem?_getD, -List.length_eq_zero_iff, conjP, hr, k1, k6', hs2, ← ek])) ?_
  (exact ss_end hXTx [0, 4, 5, 7] rfl rfl trivial rfl rfl rfl rfl (by (repeat' (first | exact rfl | exact trivial | exact sim_refl _ | refine And.intro ?_ ?_))) (by (repeat' (first | exact rfl | exact trivial | exact sim_refl _ | refine And.intro ?_ ?_))) (by (repeat' (first | exact rfl | exact trivial | exact sim_refl _ | refine And.intro ?_ ?_))) (by (repeat' (first | exact rfl | exact trivial | exact sim_refl _ | refine And.intro ?_ ?_))))
set_option maxHeartbeats 4000000 in
theorem begC0_fn (t1 : 1 ≤ T) (t4 : T ≤ 4) (r1 : 1 ≤ R) (r8 : R ≤ 8) : Gives Tryz.prog 54 [.ptr 0 0, C9 (T : Int) 4 1 4 4 1 6 0 R, AC a b false (.ff)] [.obj (clO .nilptr .nilptr p k)]
    (Is (.tup []) [.obj (.cells [.ptr 2 0, .nilptr, .ptr 3 0, .int .i64 (cRem 1 6 b)] 96), .obj (hoC (T : Int) R 2 1 (newT false false (cRem 1 6 b))), .obj (ruC 1 (newT false false (cRem 1 6 b))), .obj (drC (T : Int) R (newT false false (cRem 1 6 b)) 0)]) := by
  have hr := right_TR t1 t4 r1 r8
  obtain ⟨k1, k6⟩ := cRemB 1 6 b (by decide) (by decide) (by decide) (by decide)
  have k6' : cRem 1 6 b ≤ 2147483647 := by omega
  have hs := (start_nn hr k1 k6').1
  have hs' : ¬ startV (T : Int) 4 1 4 4 1 6 0 R (cRem 1 6 b) = -1 := by omega
  have hs2 : ¬ startV (T : Int) 4 1 4 4 1 6 0 R (cRem 1 6 b) < 0 := by omega
  have ek : cRem 1 6 b = IntKind.i64.wrap (1 + (IntKind.i64.wrap (b.tmod 6 + 6)).tmod 6) := rfl
  refine gives_x hXTx (fn := Tryz.f54) rfl rfl rfl rfl fun ρ w => ?_
  dsimp only [clO]
  refine sx hXTx [] 4000 rfl (by (simp [-List.getD_eq_getElem?_getD, -List.length_eq_zero_iff, conjP])) ?_
  refine sx hXTx [.F] 4000 rfl (by (simp [-List.getD_eq_getElem?_getD, -List.length_eq_zero_iff, conjP, addOP])) ?_
  refine sx hXTx [.F] 4000 rfl (by (simp [-List.getD_eq_getElem?_getD, -List.length_eq_zero_iff, conjP, hs', ← ek])) ?_
  refine sx hXTx [.K, .F] 4000 rfl (by (simp [-List.getD_eq_getElem?_getD, -List.length_eq_zero_iff, conjP, hr, k1, k6', hs2, ← ek])) ?_
  (exact ss_end hXTx [0, 4, 5, 7] rfl rfl trivial rfl rfl rfl rfl (by (repeat' (first | exact rfl | exact trivial | exact sim_refl _ | refine And.intro ?_ ?_))) (by (repeat' (first | exact rfl | exact trivial | exact sim_refl _ | refine And.intro ?_ ?_))) (by (repeat' (first | exact rfl | exact trivial | exact sim_refl _ | refine And.intro ?_ ?_))) (by (repeat' (first | exact rfl | exact trivial | exact sim_refl _ | refine And.intro ?_ ?_))))
end
/-- A client that does nothing begins. -/
def begS (T : Nat) (back : Bool) : Hx.Spec := fun args H => match args with
  | [.ptr c 0, .agg [.int .i64 t, .int .i64 a1, .int .i64 a2, .int .i64 a3, .int .i64 a4, .int .i64 a5, .int .i64 a6, .int .i64 a7, .int .i64 R], .agg [.int .i64 _, .int .i64 b, .bool x, y]] =>
    match getH H c, nums[H.length]?, nums[H.length + 1]?, nums[H.length + 2]? with
    | some (.cells [u, v, .raw p, .int .i64 k] ty), some n0, some n1, some n2 => match y with
      | .bool lg => some ([t = (T : Int), C9 t a1 a2 a3 a4 a5 a6 a7 R = C9 t 4 1 4 4 1 6 0 R, x = back, SO.cells [u, v, .raw p, .int .i64 k] ty = clO .nilptr .nilptr p k, 1 ≤ T, T ≤ 4, 1 ≤ R, R ≤ 8], .tup [],
          H.set c (.obj (.cells [if back then .nilptr else .ptr n1 0, if back then .ptr n1 0 else .nilptr, .ptr n2 0, .int .i64 (cRem 1 6 b)] 96)) ++ [.obj (hoC (T : Int) R n1 n0 (newT back lg (cRem 1 6 b))), .obj (ruC n0 (newT back lg (cRem 1 6 b))), .obj (drC (T : Int) R (newT back lg (cRem 1 6 b)) 0)])
      | .ff => some ([t = (T : Int), C9 t a1 a2 a3 a4 a5 a6 a7 R = C9 t 4 1 4 4 1 6 0 R, x = back, SO.cells [u, v, .raw p, .int .i64 k] ty = clO .nilptr .nilptr p k, 1 ≤ T, T ≤ 4, 1 ≤ R, R ≤ 8], .tup [],
          H.set c (.obj (.cells [if back then .nilptr else .ptr n1 0, if back then .ptr n1 0 else .nilptr, .ptr n2 0, .int .i64 (cRem 1 6 b)] 96)) ++ [.obj (hoC (T : Int) R n1 n0 (newT back false (cRem 1 6 b))), .obj (ruC n0 (newT back false (cRem 1 6 b))), .obj (drC (T : Int) R (newT back false (cRem 1 6 b)) 0)])
      | _ => none
    | _, _, _, _ => none
  | _ => none
theorem C9_inj {t a1 a2 a3 a4 a5 a6 a7 R : Int} (h : C9 t a1 a2 a3 a4 a5 a6 a7 R = C9 t 4 1 4 4 1 6 0 R) : a1 = 4 ∧ a2 = 1 ∧ a3 = 4 ∧ a4 = 4 ∧ a5 = 1 ∧ a6 = 6 ∧ a7 = 0 := by
  simp [C9] at h
  exact h
set_option maxHeartbeats 4000000 in
theorem begS_ok {T : Nat} {back : Bool} {args : List SV} {H : List HE} {ob : List Prop} {V : SV} {L : List HE} (hs : begS T back args H = some (ob, V, L)) (ho : AllP ob) : Gives Tryz.prog 54 args H (Is V L) := by
  unfold begS at hs
  split at hs
  case h_2 => simp at hs
  rename_i _ c t a1 a2 a3 a4 a5 a6 a7 R a b x y
  split at hs
  case h_2 => simp at hs
  rename_i _ _ _ _ u v p k ty n0 n1 n2 hg t0 t1 t2
  have t0' := nums_get _ _ t0
  have t1' := nums_get _ _ t1
  have t2' := nums_get _ _ t2
  subst t0'; subst t1'; subst t2'
  split at hs
  case h_3 => simp at hs
  all_goals
    simp only [Option.some.injEq, Prod.mk.injEq] at hs
    obtain ⟨rfl, rfl, rfl⟩ := hs
    simp only [AllP, List.mem_cons, List.not_mem_nil, or_false, forall_eq_or_imp, forall_eq] at ho
    obtain ⟨rfl, q1, rfl, q2, g1, g2, g3, g4⟩ := ho
    obtain ⟨rfl, rfl, rfl, rfl, rfl, rfl, rfl⟩ := C9_inj q1
    rw [q2] at hg
  · rename_i lg
    rcases x with _ | _
    · have := frame1 (H := H) (h0 := c) (N := [_, _, _]) ⟨_, hTE⟩ (begC_fn (T := T) (R := R) (a := a) (b := b) (p := p) (k := k) (lg := lg) g1 g2 g3 g4) rfl rfl rfl hg rfl
      exact this
    · have := frame1 (H := H) (h0 := c) (N := [_, _, _]) ⟨_, hTE⟩ (begR_fn (T := T) (R := R) (a := a) (b := b) (p := p) (k := k) (lg := lg) g1 g2 g3 g4) rfl rfl rfl hg rfl
      exact this
  · rcases x with _ | _
    · have := frame1 (H := H) (h0 := c) (N := [_, _, _]) ⟨_, hTE⟩ (begC0_fn (T := T) (R := R) (a := a) (b := b) (p := p) (k := k) g1 g2 g3 g4) rfl rfl rfl hg rfl
      exact this
    · have := frame1 (H := H) (h0 := c) (N := [_, _, _]) ⟨_, hTE⟩ (begR0_fn (T := T) (R := R) (a := a) (b := b) (p := p) (k := k) g1 g2 g3 g4) rfl rfl rfl hg rfl
      exact this

section
variable {P : Program} {f : Nat} {ags cargs : List SV} {V : SV} {H : List HE} {o0 o1 o2 o3 p0 p1 p2 p3 : SO} {h0 h1 h2 h3 : Nat} {N : List HE}
theorem frame4 (hT : ∃ TE : Nat → TI, ∀ t, TIok P t (TE t)) (hF : Gives P f cargs [.obj o0, .obj o1, .obj o2, .obj o3] (Is V (.obj p0 :: .obj p1 :: .obj p2 :: .obj p3 :: N))) (hargs : ags = SV.rens (nm [h0, h1, h2, h3] H) cargs)
    (hcok : SV.okhs (there [.obj o0, .obj o1, .obj o2, .obj o3]) cargs = true) (hokc : okHs (there [.obj o0, .obj o1, .obj o2, .obj o3]) [.obj o0, .obj o1, .obj o2, .obj o3] = true) (hnd : nodupN [h0, h1, h2, h3] = true)
    (g0 : getH H h0 = some (o0.ren (nm [h0, h1, h2, h3] H))) (g1 : getH H h1 = some (o1.ren (nm [h0, h1, h2, h3] H))) (g2 : getH H h2 = some (o2.ren (nm [h0, h1, h2, h3] H))) (g3 : getH H h3 = some (o3.ren (nm [h0, h1, h2, h3] H))) (hn : newOk N = true) :
    Gives P f ags H (Is (V.ren (nm [h0, h1, h2, h3] H)) ((((H.set h0 (.obj (p0.ren (nm [h0, h1, h2, h3] H)))).set h1 (.obj (p1.ren (nm [h0, h1, h2, h3] H)))).set h2 (.obj (p2.ren (nm [h0, h1, h2, h3] H)))).set h3 (.obj (p3.ren (nm [h0, h1, h2, h3] H))) ++ N.map (HE.ren (nm [h0, h1, h2, h3] H)))) := by
  have := gives_frame (H := H) hT hF [h0, h1, h2, h3] hargs hcok rfl rfl hokc hnd ⟨g0, g1, g2, g3, trivial⟩ hn
  simpa [merge, setAll, HE.ren] using this
end
/-- What an arena's pattern says of the heap. -/
theorem arP_get {H : List HE} {ha hw : Nat} {W : List Int} {st kd wd vl : Int} {ch : Bool} {ob : List Prop} (hp : arP H ha = some (hw, ⟨W, st, kd, wd, vl, ch⟩, ob)) (hob : AllP ob) :
    getH H ha = some (.cells [.slice hw 0 W.length W.length, .int .i64 st, .int .i64 kd, .int .i64 wd, .int .u64 vl, .bool ch, .niliface] 151) ∧ getH H hw = some (.ints .u64 W 52) ∧ nodupN [ha, hw] = true := by
  unfold arP at hp
  split at hp
  · rename_i hga
    split at hp
    · rename_i hgw hn
      simp only [Option.some.injEq, Prod.mk.injEq] at hp
      obtain ⟨rfl, h2, rfl⟩ := hp
      simp only [Ar.mk.injEq] at h2
      obtain ⟨rfl, rfl, rfl, rfl, rfl, rfl⟩ := h2
      have l1 := hob _ (List.mem_cons_self ..)
      have l2 := hob _ (List.mem_cons_of_mem _ (List.mem_cons_self ..))
      subst l1; subst l2
      exact ⟨hga, hgw, hn⟩
    · simp at hp
  · simp at hp

/-! A run's step. -/
theorem ren_nxV {rm : Bool} {ph a b : Nat} {σ : Nat → Nat} : (nxV rm ph a b).ren σ = nxV rm ph (σ a) (σ b) := by
  unfold nxV
  split <;> first | rfl | (cases rm <;> rfl)
theorem ren_hlV {rm : Bool} {a : Nat} {σ : Nat → Nat} : (hlV rm a).ren σ = hlV rm (σ a) := by cases rm <;> rfl
theorem ren_hoC {T R : Int} {a b : Nat} {s : TS} {σ : Nat → Nat} : (hoC T R a b s).ren σ = hoC T R (σ a) (σ b) s := by
  unfold hoC
  simp only [SO.ren, SV.rens, ren_nxV, ren_hlV, ren_erV, SV.ren]
theorem ren_ruC {b : Nat} {s : TS} {σ : Nat → Nat} : (ruC b s).ren σ = ruC (σ b) s := by
  unfold ruC
  rcases s.rm with _ | _ <;> rfl
theorem okh_nxV {rm : Bool} {ph a b : Nat} {A : Nat → Bool} (ha : A a = true) (hb : A b = true) : (nxV rm ph a b).okh A = true := by
  unfold nxV
  split <;> first | rfl | (simp [SV.okh, SV.okhs, hb]; done) | (cases rm <;> simp [SV.okh, SV.okhs, ha])
theorem okh_hlV {rm : Bool} {a : Nat} {A : Nat → Bool} (ha : A a = true) : (hlV rm a).okh A = true := by cases rm <;> simp [hlV, SV.okh, SV.okhs, ha]
theorem okh_erV {e : Int} {A : Nat → Bool} : (erV e).okh A = true := by unfold erV; split <;> rfl
theorem okh_ruC {b : Nat} {s : TS} {A : Nat → Bool} (hb : A b = true) : (ruC b s).okh A = true := by
  unfold ruC
  rcases s.rm with _ | _ <;> simp [SO.okh, SV.okhs, SV.okh, hb]
theorem okh_hoC {T R : Int} {a b : Nat} {s : TS} {A : Nat → Bool} (ha : A a = true) (hb : A b = true) : (hoC T R a b s).okh A = true := by
  unfold hoC
  simp only [SO.okh, SV.okhs, SV.okh, okh_nxV ha hb, okh_hlV ha, okh_erV, Bool.and_true]
theorem stepc_fn {st kd wd vl : Int} {ch : Bool} {W : List Int} : Gives Tryz.prog 55 [.nilptr, .ptr 0 0] [AOx 1 W st kd wd vl ch, WO W] (Is .tt [AOx 1 W st kd wd vl ch, WO W]) := by
  refine gives_x hXTx (fn := Tryz.f55) rfl rfl rfl rfl fun ρ w => ?_
  refine sx hXTx [] 4000 rfl (by (simp [-List.getD_eq_getElem?_getD, -List.length_eq_zero_iff, conjP])) ?_
  (exact ss_end hXTx [0, 1] rfl rfl trivial rfl rfl rfl rfl (by (repeat' (first | exact rfl | exact trivial | exact sim_refl _ | refine And.intro ?_ ?_))) (by (repeat' (first | exact rfl | exact trivial | exact sim_refl _ | refine And.intro ?_ ?_))) (by (repeat' (first | exact rfl | exact trivial | exact sim_refl _ | refine And.intro ?_ ?_))) (by (repeat' (first | exact rfl | exact trivial | exact sim_refl _ | refine And.intro ?_ ?_))))
theorem stepr_fn {st kd wd vl : Int} {ch : Bool} {W : List Int} : Gives Tryz.prog 56 [.nilptr, .ptr 0 0] [AOx 1 W st kd wd vl ch, WO W] (Is .tt [AOx 1 W st kd wd vl ch, WO W]) := by
  refine gives_x hXTx (fn := Tryz.f56) rfl rfl rfl rfl fun ρ w => ?_
  refine sx hXTx [] 4000 rfl (by (simp [-List.getD_eq_getElem?_getD, -List.length_eq_zero_iff, conjP])) ?_
  (exact ss_end hXTx [0, 1] rfl rfl trivial rfl rfl rfl rfl (by (repeat' (first | exact rfl | exact trivial | exact sim_refl _ | refine And.intro ?_ ?_))) (by (repeat' (first | exact rfl | exact trivial | exact sim_refl _ | refine And.intro ?_ ?_))) (by (repeat' (first | exact rfl | exact trivial | exact sim_refl _ | refine And.intro ?_ ?_))) (by (repeat' (first | exact rfl | exact trivial | exact sim_refl _ | refine And.intro ?_ ?_))))
def tStS (rm : Bool) (T : Nat) (R : Int) (start : Nat) (s : TS) (r : TR) : Hx.Spec := fun args H => match args with
  | [.nilptr, .ptr ha 0] => match arP H ha with
    | some (hw, ⟨W, st, kd, wd, vl, ch⟩, ob) => some (ob, .tt, (H.set ha (AOx hw W st kd wd vl ch)).set hw (WO W))
    | none => none
  | [.ptr h 0, .ptr ha 0] => match getH H h, arP H ha with
    | some (.cells (.ptr hh 0 :: vs) ty), some (hw, ⟨W, st, _kd, _wd, _vl, _ch⟩, ob) => match getH H hh, nodupN [h, hh, ha, hw] with
      | some o2, true => some ((s.rm = rm) :: (SO.cells (.ptr hh 0 :: vs) ty = ruC hh s) :: (o2 = hoC (T : Int) R h hh s) :: TPre T R start s W st :: (tStep T R start s W st = r) :: ob, .bool (decide (r.s.ph = 0)),
          (((H.set h (.obj (ruC hh r.s))).set hh (.obj (hoC (T : Int) R h hh r.s))).set ha (AOx hw r.W (st + 1) r.kd r.wd r.vl r.ch)).set hw (WO r.W))
      | _, _ => none
    | _, _ => none
  | _ => none
set_option maxHeartbeats 4000000 in
theorem tStS_ok {rm : Bool} {T : Nat} {R : Int} {start : Nat} {s : TS} {r : TR} {args : List SV} {H : List HE} {ob : List Prop} {V : SV} {L : List HE} (hs : tStS rm T R start s r args H = some (ob, V, L)) (ho : AllP ob) : Gives Tryz.prog (stF rm) args H (Is V L) := by
  unfold tStS at hs
  split at hs
  case h_3 => simp at hs
  · rename_i _ ha
    split at hs
    case h_2 => simp at hs
    rename_i _ hw W st kd wd vl ch ob' hp
    simp only [Option.some.injEq, Prod.mk.injEq] at hs
    obtain ⟨rfl, rfl, rfl⟩ := hs
    obtain ⟨g1, g2, g3⟩ := arP_get hp ho
    rcases rm with _ | _
    · exact frame2n (H := H) (h0 := ha) (h1 := hw) ⟨_, hTE⟩ stepc_fn rfl rfl rfl g3 g1 g2 rfl rfl rfl
    · exact frame2n (H := H) (h0 := ha) (h1 := hw) ⟨_, hTE⟩ stepr_fn rfl rfl rfl g3 g1 g2 rfl rfl rfl
  · rename_i _ h ha
    split at hs
    case h_2 => simp at hs
    rename_i _ _ hh vs ty hw W st kd wd vl ch ob' hg hp
    split at hs
    case h_2 => simp at hs
    rename_i _ _ o2 hg2 hnd
    simp only [Option.some.injEq, Prod.mk.injEq] at hs
    obtain ⟨rfl, rfl, rfl⟩ := hs
    have o1 := ho _ (List.mem_cons_self ..)
    have o2' := ho _ (List.mem_cons_of_mem _ (List.mem_cons_self ..))
    have o3 := ho _ (List.mem_cons_of_mem _ (List.mem_cons_of_mem _ (List.mem_cons_self ..)))
    have o4 := ho _ (List.mem_cons_of_mem _ (List.mem_cons_of_mem _ (List.mem_cons_of_mem _ (List.mem_cons_self ..))))
    have o5 := ho _ (List.mem_cons_of_mem _ (List.mem_cons_of_mem _ (List.mem_cons_of_mem _ (List.mem_cons_of_mem _ (List.mem_cons_self ..)))))
    obtain ⟨g1, g2, g3⟩ := arP_get hp (fun q hq => ho q (List.mem_cons_of_mem _ (List.mem_cons_of_mem _ (List.mem_cons_of_mem _ (List.mem_cons_of_mem _ (List.mem_cons_of_mem _ hq))))))
    rw [o2'] at hg
    subst o3; subst o5; subst o1
    have key := step_fn (kd := kd) (wd := wd) (vl := vl) (ch := ch) o4
    generalize tStep T R start s W st = r at key ⊢
    have key2 := frame4 (N := []) (H := H) (h0 := h) (h1 := hh) (h2 := ha) (h3 := hw) (ags := [.ptr h 0, .ptr ha 0]) ⟨_, hTE⟩ key rfl rfl (by
        have e1 : (ruC 1 s).okh (there [.obj (ruC 1 s), .obj (hoC (T : Int) R 0 1 s), AOx 3 W st kd wd vl ch, WO W]) = true := okh_ruC rfl
        have e2 : (hoC (T : Int) R 0 1 s).okh (there [.obj (ruC 1 s), .obj (hoC (T : Int) R 0 1 s), AOx 3 W st kd wd vl ch, WO W]) = true := okh_hoC rfl rfl
        simp only [okHs, e1, e2, Bool.true_and]
        rfl) hnd
      (by rw [ren_ruC]; exact hg) (by rw [ren_hoC]; exact hg2) g1 g2 rfl
    rw [ren_ruC, ren_hoC] at key2
    simp only [List.map_nil, List.append_nil] at key2
    exact key2
end Go.Proofs.YtkkddjchkkaagaaGreatDoor
