/- An arena's steps. -/
import Derived.Test.YtkkddjchkkaagaaGreatDoorRefMake
import Derived.Test.YtkkddjchkkaagaaGreatDoorHyc
namespace Go.Proofs.YtkkddjchkkaagaaGreatDoor
open Go Go.Hx
set_option maxRecDepth 8000


/-- An arena that has no trouble: its words, its steps, the last one. -/
structure Ar where
  (W : List Int) (st kd wd vl : Int) (ch : Bool)
abbrev AO (h : Nat) (s : Ar) : HE := .obj (.cells [.slice h 0 s.W.length s.W.length, .int .i64 s.st, .int .i64 s.kd, .int .i64 s.wd, .int .u64 s.vl, .bool s.ch, .niliface] 151)
abbrev WO (W : List Int) : HE := .obj (.ints .u64 W 52)
def ldA (s : Ar) (i : Int) : Ar := ⟨s.W, s.st + 1, 1, i, s.W.getD i.toNat 0, false⟩
def stA (s : Ar) (i v : Int) : Ar := ⟨s.W.set i.toNat v, s.st + 1, 2, i, v, true⟩

noncomputable def XAr : Tabs := tabs tr ft xt (fun _ => none) (fun _ => none) 20
theorem hXAr : TOk Tryz.prog XAr := ⟨hTE, hFT, fun f s args H ob V L h => by simp [XAr, tabs] at h, hXT, fun t ks h => by simp [XAr, tabs] at h, mixed⟩

section
variable {s : Ar} {i : Int} (h0 : 0 ≤ i) (h1 : i < s.W.length) (hs : 0 ≤ s.st) (hs' : s.st < 9000000000000000000)
include h0 h1 hs hs'
set_option maxHeartbeats 4000000 in
theorem arLoad_fn : Gives Tryz.prog 32 [.ptr 0 0, .int .i64 i] [AO 1 s, WO s.W] (Is (.int .u64 (s.W.getD i.toNat 0)) [AO 1 (ldA s i), WO s.W]) := by
  have e1 : IntKind.i64.wrap (s.st + 1) = s.st + 1 := wi64 (by omega) (by omega)
  refine gives_x hXAr (fn := Tryz.f32) rfl rfl rfl rfl fun ρ w => ?_
  refine sx hXAr [] 4000 rfl (by (simp [-List.getD_eq_getElem?_getD, -List.length_eq_zero_iff, conjP] <;> (first | omega | ((repeat' (refine And.intro ?_ ?_)) <;> (first | omega | exact decide_eq_false (by omega) | exact decide_eq_true (by omega)))))) ?_
  refine sx hXAr [.F] 4000 rfl (by (simp [-List.getD_eq_getElem?_getD, -List.length_eq_zero_iff, conjP, addOP, h0] <;> (first | omega | ((repeat' (refine And.intro ?_ ?_)) <;> (first | omega | exact decide_eq_false (by omega) | exact decide_eq_true (by omega)))))) ?_
  refine sx hXAr [.F] 4000 rfl (by (simp [-List.getD_eq_getElem?_getD, -List.length_eq_zero_iff, conjP, h0, h1] <;> (first | omega | ((repeat' (refine And.intro ?_ ?_)) <;> (first | omega | exact decide_eq_false (by omega) | exact decide_eq_true (by omega)))))) ?_
  (refine ss_end hXAr [0, 1] rfl rfl trivial rfl rfl rfl rfl ?_ ?_ (by (repeat' (first | exact rfl | exact trivial | exact sim_refl _ | refine And.intro ?_ ?_))) (by (repeat' (first | exact rfl | exact trivial | exact sim_refl _ | refine And.intro ?_ ?_))); all_goals (simp only [ldA, e1, Nat.add_zero]; (repeat' (first | exact rfl | exact trivial | exact sim_refl _ | refine And.intro ?_ ?_))))
set_option maxHeartbeats 4000000 in
theorem arStore_fn (v : Int) : Gives Tryz.prog 28 [.ptr 0 0, .int .i64 i, .int .u64 v] [AO 1 s, WO s.W] (Is (.tup []) [AO 1 (stA s i v), WO (stA s i v).W]) := by
  have e1 : IntKind.i64.wrap (s.st + 1) = s.st + 1 := wi64 (by omega) (by omega)
  have e2 : (s.W.set i.toNat v).getD i.toNat 0 = v := by rw [set_getD, if_pos ⟨rfl, by omega⟩]
  refine gives_x hXAr (fn := Tryz.f28) rfl rfl rfl rfl fun ρ w => ?_
  refine sx hXAr [] 4000 rfl (by (simp [-List.getD_eq_getElem?_getD, -List.length_eq_zero_iff, conjP] <;> (first | omega | ((repeat' (refine And.intro ?_ ?_)) <;> (first | omega | exact decide_eq_false (by omega) | exact decide_eq_true (by omega)))))) ?_
  refine sx hXAr [.F] 4000 rfl (by (simp [-List.getD_eq_getElem?_getD, -List.length_eq_zero_iff, conjP, addOP, h0] <;> (first | omega | ((repeat' (refine And.intro ?_ ?_)) <;> (first | omega | exact decide_eq_false (by omega) | exact decide_eq_true (by omega)))))) ?_
  refine sx hXAr [.F] 4000 rfl (by (simp [-List.getD_eq_getElem?_getD, -List.length_eq_zero_iff, conjP, h0, h1] <;> (first | omega | ((repeat' (refine And.intro ?_ ?_)) <;> (first | omega | exact decide_eq_false (by omega) | exact decide_eq_true (by omega)))))) ?_
  (refine ss_end hXAr [0, 1] rfl rfl trivial rfl rfl rfl rfl (by (repeat' (first | exact rfl | exact trivial | exact sim_refl _ | refine And.intro ?_ ?_))) ?_ (by (repeat' (first | exact rfl | exact trivial | exact sim_refl _ | refine And.intro ?_ ?_))) (by (repeat' (first | exact rfl | exact trivial | exact sim_refl _ | refine And.intro ?_ ?_))); simp only [stA, e1, e2, Nat.add_zero]; (repeat' (first | exact rfl | exact trivial | exact sim_refl _ | (simp; done) | refine And.intro ?_ ?_)))
end
set_option maxHeartbeats 4000000 in
theorem arSteps_fn {s : Ar} : Gives Tryz.prog 36 [.ptr 0 0] [AO 1 s, WO s.W] (Is (.int .i64 s.st) [AO 1 s, WO s.W]) := by
  refine gives_x hXAr (fn := Tryz.f36) rfl rfl rfl rfl fun ρ w => ?_
  refine sx hXAr [] 4000 rfl (by (simp [-List.getD_eq_getElem?_getD, -List.length_eq_zero_iff, conjP] <;> (first | omega | ((repeat' (refine And.intro ?_ ?_)) <;> (first | omega | exact decide_eq_false (by omega) | exact decide_eq_true (by omega)))))) ?_
  (exact ss_end hXAr [0, 1] rfl rfl trivial rfl rfl rfl rfl (by (repeat' (first | exact rfl | exact trivial | exact sim_refl _ | refine And.intro ?_ ?_))) (by (repeat' (first | exact rfl | exact trivial | exact sim_refl _ | refine And.intro ?_ ?_))) (by (repeat' (first | exact rfl | exact trivial | exact sim_refl _ | refine And.intro ?_ ?_))) (by (repeat' (first | exact rfl | exact trivial | exact sim_refl _ | refine And.intro ?_ ?_))))

/-! In any heap. -/
abbrev AOx (h : Nat) (W : List Int) (st kd wd vl : Int) (ch : Bool) : HE := .obj (.cells [.slice h 0 W.length W.length, .int .i64 st, .int .i64 kd, .int .i64 wd, .int .u64 vl, .bool ch, .niliface] 151)
def arP (H : List HE) (h : Nat) : Option (Nat × Ar × List Prop) :=
  match getH H h with
  | some (.cells [.slice hw 0 l c, .int .i64 st, .int .i64 kd, .int .i64 wd, .int .u64 vl, .bool ch, .niliface] 151) => match getH H hw, nodupN [h, hw] with
    | some (.ints .u64 W 52), true => some (hw, ⟨W, st, kd, wd, vl, ch⟩, [l = W.length, c = W.length])
    | _, _ => none
  | _ => none
theorem arP_ok {H : List HE} {h hw : Nat} {s : Ar} {ob : List Prop} (hp : arP H h = some (hw, s, ob)) (ho : AllP ob) : HE.obj (.cells [.slice 1 0 s.W.length s.W.length, .int .i64 s.st, .int .i64 s.kd, .int .i64 s.wd, .int .u64 s.vl, .bool s.ch, .niliface] 151) = AO 1 s ∧
    getH H h = some ((SO.cells [.slice 1 0 s.W.length s.W.length, .int .i64 s.st, .int .i64 s.kd, .int .i64 s.wd, .int .u64 s.vl, .bool s.ch, .niliface] 151).ren (nm [h, hw] H)) ∧ getH H hw = some ((SO.ints .u64 s.W 52).ren (nm [h, hw] H)) ∧ nodupN [h, hw] = true := by
  unfold arP at hp
  split at hp
  · rename_i hg
    split at hp
    · rename_i hg2 hn
      simp only [Option.some.injEq, Prod.mk.injEq] at hp
      obtain ⟨rfl, rfl, rfl⟩ := hp
      have l1 := ho _ (List.mem_cons_self ..)
      have l2 := ho _ (List.mem_cons_of_mem _ (List.mem_cons_self ..))
      subst l1; subst l2
      exact ⟨rfl, hg, hg2, hn⟩
    · simp at hp
  · simp at hp
def arLoadS : Hx.Spec := fun args H => match args with
  | [.ptr h 0, .int .i64 i] => match arP H h with
    | some (hw, ⟨W, st, _kd, _wd, _vl, _ch⟩, ob) => some ((0 ≤ i) :: (i < W.length) :: (0 ≤ st) :: (st < 9000000000000000000) :: ob, .int .u64 (W.getD i.toNat 0), (H.set h (AOx hw W (st + 1) 1 i (W.getD i.toNat 0) false)).set hw (WO W))
    | none => none
  | _ => none
theorem arLoadS_ok {args : List SV} {H : List HE} {ob : List Prop} {V : SV} {L : List HE} (hs : arLoadS args H = some (ob, V, L)) (ho : AllP ob) : Gives Tryz.prog 32 args H (Is V L) := by
  unfold arLoadS at hs
  split at hs
  · rename_i _ h i
    split at hs
    · rename_i _ hw W st kd wd vl ch ob' hp
      simp only [Option.some.injEq, Prod.mk.injEq] at hs
      obtain ⟨rfl, rfl, rfl⟩ := hs
      have q1 := ho _ (List.mem_cons_self ..)
      have q2 := ho _ (List.mem_cons_of_mem _ (List.mem_cons_self ..))
      have q3 := ho _ (List.mem_cons_of_mem _ (List.mem_cons_of_mem _ (List.mem_cons_self ..)))
      have q4 := ho _ (List.mem_cons_of_mem _ (List.mem_cons_of_mem _ (List.mem_cons_of_mem _ (List.mem_cons_self ..))))
      obtain ⟨_, g1, g2, g3⟩ := arP_ok hp fun p hp => ho p (by simp [hp])
      exact frame2n (H := H) (h0 := h) (h1 := hw) ⟨_, hTE⟩ (arLoad_fn (s := ⟨W, st, kd, wd, vl, ch⟩) q1 q2 q3 q4) rfl rfl rfl g3 g1 g2 rfl rfl rfl
    · simp at hs
  · simp at hs
def arStoreS : Hx.Spec := fun args H => match args with
  | [.ptr h 0, .int .i64 i, .int .u64 v] => match arP H h with
    | some (hw, ⟨W, st, _kd, _wd, _vl, _ch⟩, ob) => some ((0 ≤ i) :: (i < W.length) :: (0 ≤ st) :: (st < 9000000000000000000) :: ob, .tup [], (H.set h (AOx hw (W.set i.toNat v) (st + 1) 2 i v true)).set hw (WO (W.set i.toNat v)))
    | none => none
  | _ => none
theorem arStoreS_ok {args : List SV} {H : List HE} {ob : List Prop} {V : SV} {L : List HE} (hs : arStoreS args H = some (ob, V, L)) (ho : AllP ob) : Gives Tryz.prog 28 args H (Is V L) := by
  unfold arStoreS at hs
  split at hs
  · rename_i _ h i v
    split at hs
    · rename_i _ hw W st kd wd vl ch ob' hp
      simp only [Option.some.injEq, Prod.mk.injEq] at hs
      obtain ⟨rfl, rfl, rfl⟩ := hs
      have q1 := ho _ (List.mem_cons_self ..)
      have q2 := ho _ (List.mem_cons_of_mem _ (List.mem_cons_self ..))
      have q3 := ho _ (List.mem_cons_of_mem _ (List.mem_cons_of_mem _ (List.mem_cons_self ..)))
      have q4 := ho _ (List.mem_cons_of_mem _ (List.mem_cons_of_mem _ (List.mem_cons_of_mem _ (List.mem_cons_self ..))))
      obtain ⟨_, g1, g2, g3⟩ := arP_ok hp fun p hp => ho p (by simp [hp])
      exact frame2n (H := H) (h0 := h) (h1 := hw) ⟨_, hTE⟩ (arStore_fn (s := ⟨W, st, kd, wd, vl, ch⟩) q1 q2 q3 q4 v) rfl rfl rfl g3 g1 g2 rfl rfl rfl
    · simp at hs
  · simp at hs
def arStepsS : Hx.Spec := fun args H => match args with
  | [.ptr h 0] => match arP H h with
    | some (hw, ⟨W, st, kd, wd, vl, ch⟩, ob) => some (ob, .int .i64 st, (H.set h (AOx hw W st kd wd vl ch)).set hw (WO W))
    | none => none
  | _ => none
theorem arStepsS_ok {args : List SV} {H : List HE} {ob : List Prop} {V : SV} {L : List HE} (hs : arStepsS args H = some (ob, V, L)) (ho : AllP ob) : Gives Tryz.prog 36 args H (Is V L) := by
  unfold arStepsS at hs
  split at hs
  · rename_i _ h
    split at hs
    · rename_i _ hw W st kd wd vl ch ob' hp
      simp only [Option.some.injEq, Prod.mk.injEq] at hs
      obtain ⟨rfl, rfl, rfl⟩ := hs
      obtain ⟨_, g1, g2, g3⟩ := arP_ok hp ho
      exact frame2n (H := H) (h0 := h) (h1 := hw) ⟨_, hTE⟩ (arSteps_fn (s := ⟨W, st, kd, wd, vl, ch⟩)) rfl rfl rfl g3 g1 g2 rfl rfl rfl
    · simp at hs
  · simp at hs

/-! What arenas are made. -/
def makeS : Hx.Spec := fun args H => match args with
  | [.agg [.int .i64 a0, .int .i64 a1, .int .i64 a2, .int .i64 a3, .int .i64 a4, .int .i64 a5, .int .i64 a6, .int .i64 a7, .int .i64 a8]] =>
    match nums[H.length]?, nums[H.length + 1]? with
    | some n0, some n1 => some ([rightB a0 a1 a2 a3 a4 a5 a6 a7 a8 = true], .tup [.ptr n1 0, .niliface], H ++ [WO (mkA a0 a1 a2 a3 a4 a5 a6 a7 a8).W, AOx n0 (mkA a0 a1 a2 a3 a4 a5 a6 a7 a8).W (mkA a0 a1 a2 a3 a4 a5 a6 a7 a8).st 2 (mkA a0 a1 a2 a3 a4 a5 a6 a7 a8).wd (mkA a0 a1 a2 a3 a4 a5 a6 a7 a8).vl true])
    | _, _ => none
  | _ => none
theorem makeS_ok {args : List SV} {H : List HE} {ob : List Prop} {V : SV} {L : List HE} (hs : makeS args H = some (ob, V, L)) (ho : AllP ob) : Gives Tryz.prog 27 args H (Is V L) := by
  unfold makeS at hs
  split at hs
  · split at hs
    case h_2 => simp at hs
    rename_i n0 n1 e0 e1
    have e0' := nums_get _ _ e0
    have e1' := nums_get _ _ e1
    subst e0'; subst e1'
    simp only [Option.some.injEq, Prod.mk.injEq] at hs
    obtain ⟨rfl, rfl, rfl⟩ := hs
    have q := ho _ (List.mem_cons_self ..)
    have := frame0 (H := H) ⟨_, hTE⟩ (make_fn q) rfl rfl
    exact this
  · simp at hs
end Go.Proofs.YtkkddjchkkaagaaGreatDoor
