/- FindFinds: the world, and its loops. -/
import Derived.Test.YtkkddjchkkaagaaGreatDoorWordsAll
import Derived.Test.YtkkddjchkkaagaaGreatDoorPlaysWorld
import Derived.Test.YtkkddjchkkaagaaGreatDoorFailsWalk

namespace Go.Proofs.YtkkddjchkkaagaaGreatDoor
open Go Go.Hx
set_option maxRecDepth 8000
/-- A step of a run that is done does nothing. -/
theorem fst0_fn {T R : Int} {key seq : Int} {i : Nat} {fd pl ep : Int} {lg : Bool} {er tm : Int} {W : List Int} {st kd wd vl : Int} {ch : Bool} : Gives Tryz.prog 16 [.ptr 0 0, .ptr 1 0] [.obj (fnC T R 0 ⟨key, 0, seq, i, fd, pl, ep, lg, er, tm⟩), AOx 2 W st kd wd vl ch, WO W] (Is .tt [.obj (fnC T R 0 ⟨key, 0, seq, i, fd, pl, ep, lg, er, tm⟩), AOx 2 W st kd wd vl ch, WO W]) := by
  refine gives_x hXR (fn := Tryz.f16) rfl rfl rfl rfl fun ρ w => ?_
  dsimp only [fnC, fnx]
  refine sx hXR [] 4000 rfl (by (simp [-List.getD_eq_getElem?_getD, -List.length_eq_zero_iff, conjP])) ?_
  (refine ss_end hXR [0, 1, 2] rfl rfl trivial rfl rfl rfl rfl ?hv ?hh ?hk ?ho; (case hv => exact clF); (case hh => exact clF); (case hk => exact clF); (case ho => exact clF))
def fdnS (T : Nat) (R : Int) (s : FS) : Hx.Spec := fun args H => match args with
  | [.ptr h 0, .ptr ha 0] => match getH H h, arP H ha with
    | some o, some (hw, ⟨W, st, kd, wd, vl, ch⟩, ob) => match nodupN [h, ha, hw] with
      | true => some ((o = fnC (T : Int) R h s) :: (s.ph = 0) :: ob, .tt, ((H.set h (.obj (fnC (T : Int) R h s))).set ha (AOx hw W st kd wd vl ch)).set hw (WO W))
      | _ => none
    | _, _ => none
  | _ => none
theorem fdnS_ok {T : Nat} {R : Int} {s : FS} {args : List SV} {H : List HE} {ob : List Prop} {V : SV} {L : List HE} (hs : fdnS T R s args H = some (ob, V, L)) (ho : AllP ob) : Gives Tryz.prog 16 args H (Is V L) := by
  unfold fdnS at hs
  split at hs
  case h_2 => simp at hs
  rename_i _ h ha
  split at hs
  case h_2 => simp at hs
  rename_i _ _ o hw W st kd wd vl ch ob' hg hp
  split at hs
  case h_2 => simp at hs
  rename_i _ hnd
  simp only [Option.some.injEq, Prod.mk.injEq] at hs
  obtain ⟨rfl, rfl, rfl⟩ := hs
  have o1 := ho _ (List.mem_cons_self ..)
  have o2 := ho _ (List.mem_cons_of_mem _ (List.mem_cons_self ..))
  obtain ⟨g1, g2, _⟩ := arP_get hp (fun q hq => ho q (List.mem_cons_of_mem _ (List.mem_cons_of_mem _ hq)))
  subst o1
  obtain ⟨key, ph, seq, i, fd, pl, ep, lg, er, tm⟩ := s
  dsimp only at o2
  subst o2
  have key0 := fst0_fn (T := (T : Int)) (R := R) (key := key) (seq := seq) (i := i) (fd := fd) (pl := pl) (ep := ep) (lg := lg) (er := er) (tm := tm) (W := W) (st := st) (kd := kd) (wd := wd) (vl := vl) (ch := ch)
  exact frame3n (H := H) (h0 := h) (h1 := ha) (h2 := hw) (ags := [.ptr h 0, .ptr ha 0]) ⟨_, hTE⟩ key0 rfl rfl (by
    have e1 : (fnC (T : Int) R 0 ⟨key, 0, seq, i, fd, pl, ep, lg, er, tm⟩).okh (there [.obj (fnC (T : Int) R 0 ⟨key, 0, seq, i, fd, pl, ep, lg, er, tm⟩), AOx 2 W st kd wd vl ch, WO W]) = true := okh_fnC rfl
    simp only [okHs, e1, Bool.true_and]; rfl) hnd (by rw [ren_fnC]; exact hg) g1 g2 rfl (by rw [ren_fnC]; rfl) rfl rfl
def fXS (dn : Bool) (T : Nat) (R : Int) (sf : Nat) (s : FS) (r : FR) : Hx.Spec := bif dn then fdnS T R s else fStS T R sf s r
theorem fXS_ok {dn : Bool} {T : Nat} {R : Int} {sf : Nat} {s : FS} {r : FR} {args : List SV} {H : List HE} {ob : List Prop} {V : SV} {L : List HE} (hs : fXS dn T R sf s r args H = some (ob, V, L)) (ho : AllP ob) : Gives Tryz.prog 16 args H (Is V L) := by
  cases dn
  · exact fStS_ok hs ho
  · exact fdnS_ok hs ho
structure KP where
  (dn : Bool) (T : Nat) (R : Int) (sf : Nat) (f : FS) (fr : FR) (mv : Bool) (l : LS) (lr : LR) (kf kl lg : Nat)
def awK9S : List SV → Option (List Prop × SV)
  | [] => some ([], .tt)
  | _ => none
theorem awK9S_ok : PureOk 15 awK9S := by
  intro args ob V hs ho
  unfold awK9S at hs
  split at hs
  · simp only [Option.some.injEq, Prod.mk.injEq] at hs
    obtain ⟨rfl, rfl⟩ := hs
    exact ⟨rfl, rfl, awake19_fn⟩
  · simp at hs
def cfKS : List SV → Option (List Prop × SV)
  | [.agg [.int .i64 l0, .int .i64 l1]] => some ([], C9 (cAnd 7 l0) 4 1 2 4 1 6 0 (cAnd 3 l1))
  | _ => none
theorem cfKS_ok : PureOk 24 cfKS := by
  intro args ob V hs ho
  unfold cfKS at hs
  split at hs
  · simp only [Option.some.injEq, Prod.mk.injEq] at hs
    obtain ⟨rfl, rfl⟩ := hs
    exact ⟨rfl, rfl, config19_fn _ _⟩
  · simp at hs
def ctK0 (p : KP) : Nat → Option Hx.Spec
  | 15 => some (pureS awK9S)
  | 24 => some (pureS cfKS)
  | 35 => some (wordsS)
  | 16 => some (fXS p.dn p.T p.R p.sf p.f p.fr)
  | 20 => some (lStS p.mv p.lg p.T p.R p.l p.lr)
  | 13 => some (ftldS p.kf p.T p.R p.f)
  | 14 => some (ltldS p.kl p.lg p.T p.R p.l)
  | 17 => some (fDoneS p.T p.R p.f)
  | 21 => some (lDoneS p.lg p.T p.R p.l)
  | 18 => some (topFS)
  | 143 => some (pureS rightS)
  | 27 => some (makeS)
  | 84 => some (pureS startS)
  | 29 => some (pureS (placeS entryF))
  | 38 => some (pureS rkeyS)
  | 37 => some (hasS)
  | 28 => some (arStoreS)
  | 36 => some (arStepsS)
  | 33 => some (arLenS)
  | _ => none
theorem ctK0_ok (p : KP) : ∀ f s args H ob V L, ctK0 p f = some s → s args H = some (ob, V, L) → AllP ob → Gives Tryz.prog f args H (Is V L) := by
  intro f s args H ob V L h hs ho
  unfold ctK0 at h
  split at h
  · simp at h; subst h; exact pureS_ok ⟨_, hTE⟩ (awK9S_ok) hs ho
  · simp at h; subst h; exact pureS_ok ⟨_, hTE⟩ (cfKS_ok) hs ho
  · simp at h; subst h; exact wordsS_ok hs ho
  · simp at h; subst h; exact fXS_ok hs ho
  · simp at h; subst h; exact lStS_ok hs ho
  · simp at h; subst h; exact ftldS_ok hs ho
  · simp at h; subst h; exact ltldS_ok hs ho
  · simp at h; subst h; exact fDoneS_ok hs ho
  · simp at h; subst h; exact lDoneS_ok hs ho
  · simp at h; subst h; exact topFS_ok hs ho
  · simp at h; subst h; exact pureS_ok ⟨_, hTE⟩ (rightS_ok right143) hs ho
  · simp at h; subst h; exact makeS_ok hs ho
  · simp at h; subst h; exact pureS_ok ⟨_, hTE⟩ (startS_ok) hs ho
  · simp at h; subst h; exact pureS_ok ⟨_, hTE⟩ (placeS_ok (v := entryF) entry_fn) hs ho
  · simp at h; subst h; exact pureS_ok ⟨_, hTE⟩ (rkeyS_ok) hs ho
  · simp at h; subst h; exact hasS_ok hs ho
  · simp at h; subst h; exact arStoreS_ok hs ho
  · simp at h; subst h; exact arStepsS_ok hs ho
  · simp at h; subst h; exact arLenS_ok hs ho
  · simp at h
noncomputable def XKl (p : KP) : Tabs := tabs tr ft xt etP (ctK0 p) 0
theorem hXKl (p : KP) : TOk Tryz.prog (XKl p) := ⟨hTE, hFT, ctK0_ok p, hXT, fun t ks h => etP_ok t ks h, mixed⟩
def keE (bb : Bool) (z : List Int) : HE := match bb with | true => .obj (.winI .i64 z) | false => .absent
theorem subE_keE {H : List HE} {σ : Nat → Nat} {i : Nat} {bb : Bool} {z : List Int} (hg : H[σ i]? = some (keE bb z)) : subE σ H i (keE bb z) := by
  cases bb
  · trivial
  · exact subE_same hg rfl
theorem okE_keE {A : Nat → Bool} {bb : Bool} {z : List Int} : okE A (keE bb z) := by cases bb <;> trivial
theorem clhK {P : Prop} (h : P := by repeat' (first | exact rfl | exact trivial | exact sim_refl _ | exact simO_refl _ | exact sim_slVr rfl | exact subE_same rfl ren_slE | exact subE_keE rfl | exact subE_fnC rfl rfl | exact subE_lsC rfl ⟨rfl, rfl⟩ | exact subE_lsC0 rfl rfl rfl | exact List.length_set.symm | exact List.length_set | assumption | refine And.intro ?_ ?_)) : P := h
theorem clkK {P : Prop} (h : P := by repeat' (first | exact rfl | exact trivial | exact okE_slE | exact okE_keE | exact okP_slV rfl | exact okE_fnC (a := 7) rfl | exact okE_lsC (a := 8) (b := 9) rfl rfl | refine And.intro ?_ ?_)) : P := h
structure AQ where
  (W : List Int) (st kd wd vl : Int) (ch : Bool)
def kdH (bb : Bool) (z : List Int) (T : Nat) (R : Int) (y : AQ) (W1 : List Int) (q : Option (List Int)) (x : List HE) : List HE :=
  keE bb z :: pinE RTV :: cfPE T R :: AOx 4 y.W y.st y.kd y.wd y.vl y.ch :: WO y.W :: WO W1 :: slE q .i64 3 :: x
/-- The store loop's head. -/
def k1T (W1 : List Int) (q : Option (List Int)) (key : Int) (i : Nat) : List (Nat × SV) := [(2, .int .i64 key), (7, .tt), (8, .ptr 2 0), (9, .ptr 3 0), (11, .slice 5 0 W1.length W1.length), (12, slV q 6), (13, .int .i64 (i : Int))]
/-- The head of the loop that finds. -/
def k2T (W1 : List Int) (q : Option (List Int)) (k n0 : Int) (i : Nat) : List (Nat × SV) := [(7, .tt), (8, .ptr 2 0), (9, .ptr 3 0), (11, .slice 5 0 W1.length W1.length), (12, slV q 6), (14, .int .i64 k), (15, .ptr 7 0), (16, .ptr 8 0), (17, .int .i64 n0), (18, .int .i64 (i : Int))]
/-- The head of the loop that lists. -/
def k4T (W1 : List Int) (q : Option (List Int)) (k n0 m0 : Int) (i : Nat) : List (Nat × SV) := [(7, .tt), (8, .ptr 2 0), (9, .ptr 3 0), (11, .slice 5 0 W1.length W1.length), (12, slV q 6), (14, .int .i64 k), (15, .ptr 7 0), (16, .ptr 8 0), (17, .int .i64 n0), (19, .int .i64 m0), (20, .int .i64 (i : Int))]
def kfH (bb : Bool) (z : List Int) (T : Nat) (R : Int) (y : AQ) (W1 : List Int) (q : Option (List Int)) (f : FS) (l : LS) : List HE := kdH bb z T R y W1 q [.obj (fnC (T : Int) R 7 f), .obj (lsC (T : Int) R 8 9 l), slE l.told .i64 3]
section
variable {bb : Bool} {z : List Int} {T : Nat} {R k key : Int} {W1 all : List Int} {q : Option (List Int)} {n0 : Int} {ρ : Nat → Nat × Nat} {w : World} {I : Act → World → Prop}
abbrev KJ (p : KP) (bb : Bool) (z : List Int) (ρ : Nat → Nat × Nat) (w : World) (I : Act → World → Prop) (reg : Nat) (T0 : List (Nat × SV)) (H0 : List HE) : Prop :=
  ∀ cs TT H, Sub (FEnv Tryz.prog (XKl p).TE (hXKl p).te Tryz.f5 Tryz.f5.ntmps [keE bb z, pinE RTV] (Is .tt [keE bb z, pinE RTV]) ρ w) TT H T0 H0 → SS (hXKl p) (At ρ w) (Is .tt [keE bb z, pinE RTV]) ⟨cs, [], Tryz.f5, Tryz.f5.ntmps, [keE bb z, pinE RTV], downLq (contF Tryz.f5 reg [I]), TT, H⟩
abbrev KG (p : KP) (bb : Bool) (z : List Int) (ρ : Nat → Nat × Nat) (w : World) (I : Act → World → Prop) (reg : Nat) (T0 : List (Nat × SV)) (H0 : List HE) : Prop :=
  SS (hXKl p) (At ρ w) (Is .tt [keE bb z, pinE RTV]) ⟨[], [], Tryz.f5, Tryz.f5.ntmps, [keE bb z, pinE RTV], contF Tryz.f5 reg [I], T0, H0⟩
def kp0 (T : Nat) (R : Int) : KP := ⟨false, T, R, 0, f00, ⟨f00, 0, 0⟩, false, l00, ⟨l00, 0, 0⟩, 0, 0, 9⟩
set_option maxHeartbeats 4000000 in
/-- A word is stored. -/
theorem ka1 {y : AQ} {i : Nat} (hy : y.W.length = W1.length) (hn : W1.length ≤ 1000) (hb : ∀ j, 0 ≤ W1.getD j 0 ∧ W1.getD j 0 < 18446744073709551616) (st0 : 0 ≤ y.st) (st1 : y.st < 1000000) (hi : i < W1.length)
    (J : KJ (kp0 T R) bb z ρ w I 8 (k1T W1 q key (i + 1)) (kdH bb z T R ⟨y.W.set i (W1.getD i 0), y.st + 1, 2, (i : Int), W1.getD i 0, true⟩ W1 q [])) :
    KG (kp0 T R) bb z ρ w I 8 (k1T W1 q key i) (kdH bb z T R y W1 q []) := by
  obtain ⟨W, st, kd, wd, vl, ch⟩ := y
  dsimp only at hy st0 st1
  have hX := hXKl (kp0 T R)
  have h1 : (i : Int) < (W1.length : Int) := by omega
  have h2 : (i : Int) < (W.length : Int) := by omega
  have h3 := (hb i).1
  have h4 := (hb i).2
  have ewi : IntKind.i64.wrap ((i : Int) + 1) = ((i + 1 : Nat) : Int) := by rw [wi64 (by omega) (by omega)]; omega
  dsimp only [KG, k1T, kdH]
  unfold KJ at J
  dsimp only [k1T, kdH] at J
  refine sx hX [] 4000 rfl (by (simp [-List.getD_eq_getElem?_getD, -List.length_eq_zero_iff, conjP])) ?_
  refine sx hX [.T] 4000 rfl (by (simp [-List.getD_eq_getElem?_getD, -List.length_eq_zero_iff, conjP, h1, h2, hi, st0, Int.toNat_natCast] <;> (first | omega | ((repeat' (refine And.intro ?_ ?_)) <;> (first | omega | exact decide_eq_false (by omega) | exact decide_eq_true (by omega)))))) ?_
  (refine J _ _ _ (sub_of [0, 1, 2, 3, 4, 5, 6] rfl rfl rfl (by cases bb <;> rfl) ?tt ?hh ?ot ?ok); (case tt => (try simp only [ewi]); exact clhK); (case hh => (try simp only [Int.toNat_natCast, Nat.add_zero]); exact clhK); (case ot => exact clkK); (case ok => exact clkK))
set_option maxHeartbeats 4000000 in
/-- The run that finds does a step. -/
theorem kf1 {y : AQ} {i : Nat} {sf : Nat} {f : FS} {l : LS} {r : FR} (hi : i < T + 3) (hT : T ≤ 8) (hP : FB T R y.W y.st ∧ FC T R f ∧ sf < T ∧ startV (T : Int) 4 1 2 4 1 6 0 R f.key = (sf : Int) ∧ fStep T R sf f y.W y.st = r)
    (J : KJ ⟨false, T, R, sf, f, r, false, l00, ⟨l00, 0, 0⟩, 0, 0, 9⟩ bb z ρ w I 16 (k2T W1 q k n0 (i + 1)) (kfH bb z T R ⟨y.W, y.st + 1, 1, r.wd, r.vl, false⟩ W1 q r.s l)) :
    KG ⟨false, T, R, sf, f, r, false, l00, ⟨l00, 0, 0⟩, 0, 0, 9⟩ bb z ρ w I 16 (k2T W1 q k n0 i) (kfH bb z T R y W1 q f l) := by
  obtain ⟨W, st, kd, wd, vl, ch⟩ := y
  have hX := hXKl ⟨false, T, R, sf, f, r, false, l00, ⟨l00, 0, 0⟩, 0, 0, 9⟩
  have e3 : IntKind.i64.wrap ((T : Int) + 3) = (T : Int) + 3 := wi64 (by omega) (by omega)
  have h1 : (i : Int) < (T : Int) + 3 := by omega
  have ewi : IntKind.i64.wrap ((i : Int) + 1) = ((i + 1 : Nat) : Int) := by rw [wi64 (by omega) (by omega)]; omega
  dsimp only [KG, k2T, kfH, kdH] at hP ⊢
  unfold KJ at J
  dsimp only [k2T, kfH, kdH] at J
  refine sx hX [] 4000 rfl (by (simp [-List.getD_eq_getElem?_getD, -List.length_eq_zero_iff, conjP])) ?_
  refine sx hX [.T] 4000 rfl (by (simp [-List.getD_eq_getElem?_getD, -List.length_eq_zero_iff, conjP, eq_true hP, e3, h1])) ?_
  (refine J _ _ _ (sub_of [0, 1, 2, 3, 4, 5, 6, 7, 8, 9] rfl rfl rfl (by cases bb <;> rfl) ?tt ?hh ?ot ?ok); (case tt => (try simp only [ewi]); exact clhK); (case hh => exact clhK); (case ot => exact clkK); (case ok => exact clkK))
set_option maxHeartbeats 4000000 in
/-- It is done. -/
theorem kf0 {y : AQ} {i : Nat} {f : FS} {l : LS} (hi : i < T + 3) (hT : T ≤ 8) (hP : f.ph = 0) (J : KJ ⟨true, T, R, 0, f, ⟨f00, 0, 0⟩, false, l00, ⟨l00, 0, 0⟩, 0, 0, 9⟩ bb z ρ w I 16 (k2T W1 q k n0 (i + 1)) (kfH bb z T R y W1 q f l)) :
    KG ⟨true, T, R, 0, f, ⟨f00, 0, 0⟩, false, l00, ⟨l00, 0, 0⟩, 0, 0, 9⟩ bb z ρ w I 16 (k2T W1 q k n0 i) (kfH bb z T R y W1 q f l) := by
  obtain ⟨W, st, kd, wd, vl, ch⟩ := y
  have hX := hXKl ⟨true, T, R, 0, f, ⟨f00, 0, 0⟩, false, l00, ⟨l00, 0, 0⟩, 0, 0, 9⟩
  have e3 : IntKind.i64.wrap ((T : Int) + 3) = (T : Int) + 3 := wi64 (by omega) (by omega)
  have h1 : (i : Int) < (T : Int) + 3 := by omega
  have ewi : IntKind.i64.wrap ((i : Int) + 1) = ((i + 1 : Nat) : Int) := by rw [wi64 (by omega) (by omega)]; omega
  dsimp only [KG, k2T, kfH, kdH]
  unfold KJ at J
  dsimp only [k2T, kfH, kdH] at J
  refine sx hX [] 4000 rfl (by (simp [-List.getD_eq_getElem?_getD, -List.length_eq_zero_iff, conjP])) ?_
  refine sx hX [.T] 4000 rfl (by (simp [-List.getD_eq_getElem?_getD, -List.length_eq_zero_iff, conjP, eq_true hP, e3, h1])) ?_
  (refine J _ _ _ (sub_of [0, 1, 2, 3, 4, 5, 6, 7, 8, 9] rfl rfl rfl (by cases bb <;> rfl) ?tt ?hh ?ot ?ok); (case tt => (try simp only [ewi]); exact clhK); (case hh => exact clhK); (case ot => exact clkK); (case ok => exact clkK))
set_option maxHeartbeats 4000000 in
theorem kla {W : List Int} {st kd wd vl : Int} {ch : Bool} {i : Nat} {m0 : Int} {f : FS} {ph0 : Nat} {seq0 : Int} {j0 : Nat} {fd0 er0 tm0 : Int} {ph' : Nat} {seq' : Int} {j' : Nat} {fd' er' tm' wd' vl' : Int} (hi : i < T + 2) (hT : T ≤ 8) (hP : FB T R W st ∧ LC T R ⟨ph0, seq0, j0, fd0, none, er0, tm0⟩ ∧ lStep T R ⟨ph0, seq0, j0, fd0, none, er0, tm0⟩ W st = ⟨⟨ph', seq', j', fd', none, er', tm'⟩, wd', vl'⟩ ∧ mvB ⟨ph0, seq0, j0, fd0, none, er0, tm0⟩ W = false)
    (J : KJ ⟨false, T, R, 0, f00, ⟨f00, 0, 0⟩, false, ⟨ph0, seq0, j0, fd0, none, er0, tm0⟩, ⟨⟨ph', seq', j', fd', none, er', tm'⟩, wd', vl'⟩, 0, 0, 9⟩ bb z ρ w I 21 (k4T W1 q k n0 m0 (i + 1)) (kfH bb z T R ⟨W, st + 1, 1, wd', vl', false⟩ W1 q f ⟨ph', seq', j', fd', none, er', tm'⟩)) :
    KG ⟨false, T, R, 0, f00, ⟨f00, 0, 0⟩, false, ⟨ph0, seq0, j0, fd0, none, er0, tm0⟩, ⟨⟨ph', seq', j', fd', none, er', tm'⟩, wd', vl'⟩, 0, 0, 9⟩ bb z ρ w I 21 (k4T W1 q k n0 m0 i) (kfH bb z T R ⟨W, st, kd, wd, vl, ch⟩ W1 q f ⟨ph0, seq0, j0, fd0, none, er0, tm0⟩) := by
  have hX := hXKl ⟨false, T, R, 0, f00, ⟨f00, 0, 0⟩, false, ⟨ph0, seq0, j0, fd0, none, er0, tm0⟩, ⟨⟨ph', seq', j', fd', none, er', tm'⟩, wd', vl'⟩, 0, 0, 9⟩
  have e2 : IntKind.i64.wrap ((T : Int) + 2) = (T : Int) + 2 := wi64 (by omega) (by omega)
  have h1 : (i : Int) < (T : Int) + 2 := by omega
  have ewi : IntKind.i64.wrap ((i : Int) + 1) = ((i + 1 : Nat) : Int) := by rw [wi64 (by omega) (by omega)]; omega
  have eL : lsC (T : Int) R 8 10 ⟨ph', seq', j', fd', none, er', tm'⟩ = lsC (T : Int) R 8 9 ⟨ph', seq', j', fd', none, er', tm'⟩ := rfl
  dsimp only [KG, k4T, kfH, kdH]
  unfold KJ at J
  dsimp only [k4T, kfH, kdH] at J
  refine sx hX [] 4000 rfl (by (simp [-List.getD_eq_getElem?_getD, -List.length_eq_zero_iff, conjP])) ?_
  refine sx hX [.T] 4000 rfl (by (simp [-List.getD_eq_getElem?_getD, -List.length_eq_zero_iff, conjP, hP.1, hP.2.1, hP.2.2.1, hP.2.2.2, e2, h1])) ?_
  (refine J _ _ _ (sub_of [0, 1, 2, 3, 4, 5, 6, 7, 8, 9] rfl rfl rfl (by cases bb <;> rfl) ?tt ?hh ?ot ?ok); (case tt => (try simp only [ewi]); exact clhK); (case hh => exact clhK); (case ot => exact clkK); (case ok => exact clkK))
set_option maxHeartbeats 4000000 in
theorem klb {W : List Int} {st kd wd vl : Int} {ch : Bool} {i : Nat} {m0 : Int} {f : FS} {ph0 : Nat} {seq0 : Int} {j0 : Nat} {fd0 er0 tm0 : Int} {ph' : Nat} {seq' : Int} {j' : Nat} {fd' er' tm' wd' vl' : Int} {l' : List Int} (hi : i < T + 2) (hT : T ≤ 8) (hP : FB T R W st ∧ LC T R ⟨ph0, seq0, j0, fd0, none, er0, tm0⟩ ∧ lStep T R ⟨ph0, seq0, j0, fd0, none, er0, tm0⟩ W st = ⟨⟨ph', seq', j', fd', some l', er', tm'⟩, wd', vl'⟩ ∧ mvB ⟨ph0, seq0, j0, fd0, none, er0, tm0⟩ W = true)
    (J : KJ ⟨false, T, R, 0, f00, ⟨f00, 0, 0⟩, true, ⟨ph0, seq0, j0, fd0, none, er0, tm0⟩, ⟨⟨ph', seq', j', fd', some l', er', tm'⟩, wd', vl'⟩, 0, 0, 9⟩ bb z ρ w I 21 (k4T W1 q k n0 m0 (i + 1)) (kfH bb z T R ⟨W, st + 1, 1, wd', vl', false⟩ W1 q f ⟨ph', seq', j', fd', some l', er', tm'⟩)) :
    KG ⟨false, T, R, 0, f00, ⟨f00, 0, 0⟩, true, ⟨ph0, seq0, j0, fd0, none, er0, tm0⟩, ⟨⟨ph', seq', j', fd', some l', er', tm'⟩, wd', vl'⟩, 0, 0, 9⟩ bb z ρ w I 21 (k4T W1 q k n0 m0 i) (kfH bb z T R ⟨W, st, kd, wd, vl, ch⟩ W1 q f ⟨ph0, seq0, j0, fd0, none, er0, tm0⟩) := by
  have hX := hXKl ⟨false, T, R, 0, f00, ⟨f00, 0, 0⟩, true, ⟨ph0, seq0, j0, fd0, none, er0, tm0⟩, ⟨⟨ph', seq', j', fd', some l', er', tm'⟩, wd', vl'⟩, 0, 0, 9⟩
  have e2 : IntKind.i64.wrap ((T : Int) + 2) = (T : Int) + 2 := wi64 (by omega) (by omega)
  have h1 : (i : Int) < (T : Int) + 2 := by omega
  have ewi : IntKind.i64.wrap ((i : Int) + 1) = ((i + 1 : Nat) : Int) := by rw [wi64 (by omega) (by omega)]; omega
  dsimp only [KG, k4T, kfH, kdH]
  unfold KJ at J
  dsimp only [k4T, kfH, kdH] at J
  refine sx hX [] 4000 rfl (by (simp [-List.getD_eq_getElem?_getD, -List.length_eq_zero_iff, conjP])) ?_
  refine sx hX [.T] 4000 rfl (by (simp [-List.getD_eq_getElem?_getD, -List.length_eq_zero_iff, conjP, hP.1, hP.2.1, hP.2.2.1, hP.2.2.2, e2, h1])) ?_
  (refine J _ _ _ (sub_of [0, 1, 2, 3, 4, 5, 6, 7, 8, 10] rfl rfl rfl (by cases bb <;> rfl) ?tt ?hh ?ot ?ok); (case tt => (try simp only [ewi]); exact clhK); (case hh => exact clhK); (case ot => exact clkK); (case ok => exact clkK))
set_option maxHeartbeats 4000000 in
theorem kld {W : List Int} {st kd wd vl : Int} {ch : Bool} {i : Nat} {m0 : Int} {f : FS} {ph0 : Nat} {seq0 : Int} {j0 : Nat} {fd0 er0 tm0 : Int} {ph' : Nat} {seq' : Int} {j' : Nat} {fd' er' tm' wd' vl' : Int} {l0 : List Int} (hi : i < T + 2) (hT : T ≤ 8) (hP : FB T R W st ∧ LC T R ⟨ph0, seq0, j0, fd0, some l0, er0, tm0⟩ ∧ lStep T R ⟨ph0, seq0, j0, fd0, some l0, er0, tm0⟩ W st = ⟨⟨ph', seq', j', fd', some l0, er', tm'⟩, wd', vl'⟩ ∧ mvB ⟨ph0, seq0, j0, fd0, some l0, er0, tm0⟩ W = false ∧ j0 ≤ 8)
    (J : KJ ⟨false, T, R, 0, f00, ⟨f00, 0, 0⟩, false, ⟨ph0, seq0, j0, fd0, some l0, er0, tm0⟩, ⟨⟨ph', seq', j', fd', some l0, er', tm'⟩, wd', vl'⟩, 0, 0, 9⟩ bb z ρ w I 21 (k4T W1 q k n0 m0 (i + 1)) (kfH bb z T R ⟨W, st + 1, 1, wd', vl', false⟩ W1 q f ⟨ph', seq', j', fd', some l0, er', tm'⟩)) :
    KG ⟨false, T, R, 0, f00, ⟨f00, 0, 0⟩, false, ⟨ph0, seq0, j0, fd0, some l0, er0, tm0⟩, ⟨⟨ph', seq', j', fd', some l0, er', tm'⟩, wd', vl'⟩, 0, 0, 9⟩ bb z ρ w I 21 (k4T W1 q k n0 m0 i) (kfH bb z T R ⟨W, st, kd, wd, vl, ch⟩ W1 q f ⟨ph0, seq0, j0, fd0, some l0, er0, tm0⟩) := by
  have hX := hXKl ⟨false, T, R, 0, f00, ⟨f00, 0, 0⟩, false, ⟨ph0, seq0, j0, fd0, some l0, er0, tm0⟩, ⟨⟨ph', seq', j', fd', some l0, er', tm'⟩, wd', vl'⟩, 0, 0, 9⟩
  have e2 : IntKind.i64.wrap ((T : Int) + 2) = (T : Int) + 2 := wi64 (by omega) (by omega)
  have h1 : (i : Int) < (T : Int) + 2 := by omega
  have ewi : IntKind.i64.wrap ((i : Int) + 1) = ((i + 1 : Nat) : Int) := by rw [wi64 (by omega) (by omega)]; omega
  dsimp only [KG, k4T, kfH, kdH]
  unfold KJ at J
  dsimp only [k4T, kfH, kdH] at J
  refine sx hX [] 4000 rfl (by (simp [-List.getD_eq_getElem?_getD, -List.length_eq_zero_iff, conjP])) ?_
  refine sx hX [.T] 4000 rfl (by (simp [-List.getD_eq_getElem?_getD, -List.length_eq_zero_iff, conjP, hP.1, hP.2.1, hP.2.2.1, hP.2.2.2.1, hP.2.2.2.2, e2, h1])) ?_
  (refine J _ _ _ (sub_of [0, 1, 2, 3, 4, 5, 6, 7, 8, 9] rfl rfl rfl (by cases bb <;> rfl) ?tt ?hh ?ot ?ok); (case tt => (try simp only [ewi]); exact clhK); (case hh => exact clhK); (case ot => exact clkK); (case ok => exact clkK))
set_option maxHeartbeats 4000000 in
theorem kle {W : List Int} {st kd wd vl : Int} {ch : Bool} {i : Nat} {m0 : Int} {f : FS} {ph0 : Nat} {seq0 : Int} {j0 : Nat} {fd0 er0 tm0 : Int} {ph' : Nat} {seq' : Int} {j' : Nat} {fd' er' tm' wd' vl' : Int} {l0 : List Int} {l' : List Int} (hi : i < T + 2) (hT : T ≤ 8) (hP : FB T R W st ∧ LC T R ⟨ph0, seq0, j0, fd0, some l0, er0, tm0⟩ ∧ lStep T R ⟨ph0, seq0, j0, fd0, some l0, er0, tm0⟩ W st = ⟨⟨ph', seq', j', fd', some l', er', tm'⟩, wd', vl'⟩ ∧ mvB ⟨ph0, seq0, j0, fd0, some l0, er0, tm0⟩ W = true ∧ j0 ≤ 8)
    (J : KJ ⟨false, T, R, 0, f00, ⟨f00, 0, 0⟩, true, ⟨ph0, seq0, j0, fd0, some l0, er0, tm0⟩, ⟨⟨ph', seq', j', fd', some l', er', tm'⟩, wd', vl'⟩, 0, 0, 9⟩ bb z ρ w I 21 (k4T W1 q k n0 m0 (i + 1)) (kfH bb z T R ⟨W, st + 1, 1, wd', vl', false⟩ W1 q f ⟨ph', seq', j', fd', some l', er', tm'⟩)) :
    KG ⟨false, T, R, 0, f00, ⟨f00, 0, 0⟩, true, ⟨ph0, seq0, j0, fd0, some l0, er0, tm0⟩, ⟨⟨ph', seq', j', fd', some l', er', tm'⟩, wd', vl'⟩, 0, 0, 9⟩ bb z ρ w I 21 (k4T W1 q k n0 m0 i) (kfH bb z T R ⟨W, st, kd, wd, vl, ch⟩ W1 q f ⟨ph0, seq0, j0, fd0, some l0, er0, tm0⟩) := by
  have hX := hXKl ⟨false, T, R, 0, f00, ⟨f00, 0, 0⟩, true, ⟨ph0, seq0, j0, fd0, some l0, er0, tm0⟩, ⟨⟨ph', seq', j', fd', some l', er', tm'⟩, wd', vl'⟩, 0, 0, 9⟩
  have e2 : IntKind.i64.wrap ((T : Int) + 2) = (T : Int) + 2 := wi64 (by omega) (by omega)
  have h1 : (i : Int) < (T : Int) + 2 := by omega
  have ewi : IntKind.i64.wrap ((i : Int) + 1) = ((i + 1 : Nat) : Int) := by rw [wi64 (by omega) (by omega)]; omega
  dsimp only [KG, k4T, kfH, kdH]
  unfold KJ at J
  dsimp only [k4T, kfH, kdH] at J
  refine sx hX [] 4000 rfl (by (simp [-List.getD_eq_getElem?_getD, -List.length_eq_zero_iff, conjP])) ?_
  refine sx hX [.T] 4000 rfl (by (simp [-List.getD_eq_getElem?_getD, -List.length_eq_zero_iff, conjP, hP.1, hP.2.1, hP.2.2.1, hP.2.2.2.1, hP.2.2.2.2, e2, h1])) ?_
  (refine J _ _ _ (sub_of [0, 1, 2, 3, 4, 5, 6, 7, 8, 10] rfl rfl rfl (by cases bb <;> rfl) ?tt ?hh ?ot ?ok); (case tt => (try simp only [ewi]); exact clhK); (case hh => exact clhK); (case ot => exact clkK); (case ok => exact clkK))
end
end Go.Proofs.YtkkddjchkkaagaaGreatDoor
