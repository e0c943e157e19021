/- The document's arena's steps. -/
import Derived.Test.YtkkddjchkkaagaaGreatDoorArenaSteps
namespace Go.Proofs.YtkkddjchkkaagaaGreatDoor
open Go Go.Hx
set_option maxRecDepth 8000


/-- The document's arena, without trouble. -/
abbrev RO (h : Nat) (s : Ar) : HE := .obj (.cells [.slice h 0 s.W.length s.W.length, .int .i64 s.st, .int .i64 s.kd, .int .i64 s.wd, .int .u64 s.vl, .bool s.ch, .ff, .int .i64 0] 63)

noncomputable def XRa : Tabs := tabs tr ft xt (fun _ => none) (fun _ => none) 20
theorem hXRa : TOk Tryz.prog XRa := ⟨hTE, hFT, fun f s args H ob V L h => by simp [XRa, tabs] at h, hXT, fun t ks h => by simp [XRa, tabs] at h, mixed⟩

section
variable {s : Ar} {i : Int} (h0 : 0 ≤ i) (h1 : i < s.W.length) (hs : 0 ≤ s.st) (hs' : s.st < 9000000000000000000)
include h0 h1 hs hs'
set_option maxHeartbeats 4000000 in
theorem raLoad_fn : Gives Tryz.prog 117 [.ptr 0 0, .int .i64 i] [RO 1 s, WO s.W] (Is (.int .u64 (s.W.getD i.toNat 0)) [RO 1 (ldA s i), WO s.W]) := by
  have e1 : IntKind.i64.wrap (s.st + 1) = s.st + 1 := wi64 (by omega) (by omega)
  refine gives_x hXRa (fn := Tryz.f117) rfl rfl rfl rfl fun ρ w => ?_
  refine sx hXRa [] 4000 rfl (by (simp [-List.getD_eq_getElem?_getD, -List.length_eq_zero_iff, conjP])) ?_
  refine sx hXRa [.T] 4000 rfl (by (simp [-List.getD_eq_getElem?_getD, -List.length_eq_zero_iff, conjP, addOP, h0])) ?_
  refine sx hXRa [.T] 4000 rfl (by (simp [-List.getD_eq_getElem?_getD, -List.length_eq_zero_iff, conjP, h0, h1])) ?_
  (refine ss_end hXRa [0, 1] rfl rfl trivial rfl rfl rfl rfl ?_ ?_ (by (repeat' (first | exact rfl | exact trivial | exact sim_refl _ | refine And.intro ?_ ?_))) (by (repeat' (first | exact rfl | exact trivial | exact sim_refl _ | refine And.intro ?_ ?_))); all_goals (simp only [ldA, e1, Nat.add_zero]; (repeat' (first | exact rfl | exact trivial | exact sim_refl _ | refine And.intro ?_ ?_))))
set_option maxHeartbeats 4000000 in
theorem raStore_fn (v : Int) : Gives Tryz.prog 41 [.ptr 0 0, .int .i64 i, .int .u64 v] [RO 1 s, WO s.W] (Is (.tup []) [RO 1 (stA s i v), WO (stA s i v).W]) := by
  have e1 : IntKind.i64.wrap (s.st + 1) = s.st + 1 := wi64 (by omega) (by omega)
  have e2 : (s.W.set i.toNat v).getD i.toNat 0 = v := by rw [set_getD, if_pos ⟨rfl, by omega⟩]
  refine gives_x hXRa (fn := Tryz.f41) rfl rfl rfl rfl fun ρ w => ?_
  refine sx hXRa [] 4000 rfl (by (simp [-List.getD_eq_getElem?_getD, -List.length_eq_zero_iff, conjP])) ?_
  refine sx hXRa [.T] 4000 rfl (by (simp [-List.getD_eq_getElem?_getD, -List.length_eq_zero_iff, conjP, addOP, h0])) ?_
  refine sx hXRa [.T] 4000 rfl (by (simp [-List.getD_eq_getElem?_getD, -List.length_eq_zero_iff, conjP, h0, h1])) ?_
  (refine ss_end hXRa [0, 1] rfl rfl trivial rfl rfl rfl rfl (by (repeat' (first | exact rfl | exact trivial | exact sim_refl _ | refine And.intro ?_ ?_))) ?_ (by (repeat' (first | exact rfl | exact trivial | exact sim_refl _ | refine And.intro ?_ ?_))) (by (repeat' (first | exact rfl | exact trivial | exact sim_refl _ | refine And.intro ?_ ?_))); simp only [stA, e1, Nat.add_zero]; (repeat' (first | exact rfl | exact trivial | exact sim_refl _ | (simp; done) | refine And.intro ?_ ?_)))
end

/-! In any heap. -/
abbrev ROx (h : Nat) (W : List Int) (st kd wd vl : Int) (ch : Bool) : HE := .obj (.cells [.slice h 0 W.length W.length, .int .i64 st, .int .i64 kd, .int .i64 wd, .int .u64 vl, .bool ch, .ff, .int .i64 0] 63)
def raP (H : List HE) (h : Nat) : Option (Nat × Ar × List Prop) :=
  match getH H h with
  | some (.cells [.slice hw 0 l c, .int .i64 st, .int .i64 kd, .int .i64 wd, .int .u64 vl, .bool ch, .ff, .int .i64 0] 63) => match getH H hw, nodupN [h, hw] with
    | some (.ints .u64 W 52), true => some (hw, ⟨W, st, kd, wd, vl, ch⟩, [l = W.length, c = W.length])
    | _, _ => none
  | _ => none
theorem raP_ok {H : List HE} {h hw : Nat} {s : Ar} {ob : List Prop} (hp : raP H h = some (hw, s, ob)) (ho : AllP ob) : HE.obj (.cells [.slice 1 0 s.W.length s.W.length, .int .i64 s.st, .int .i64 s.kd, .int .i64 s.wd, .int .u64 s.vl, .bool s.ch, .ff, .int .i64 0] 63) = RO 1 s ∧
    getH H h = some ((SO.cells [.slice 1 0 s.W.length s.W.length, .int .i64 s.st, .int .i64 s.kd, .int .i64 s.wd, .int .u64 s.vl, .bool s.ch, .ff, .int .i64 0] 63).ren (nm [h, hw] H)) ∧ getH H hw = some ((SO.ints .u64 s.W 52).ren (nm [h, hw] H)) ∧ nodupN [h, hw] = true := by
  unfold raP at hp
  split at hp
  · rename_i hg
    split at hp
    · rename_i hg2 hn
      simp only [Option.some.injEq, Prod.mk.injEq] at hp
      obtain ⟨rfl, rfl, rfl⟩ := hp
      have l1 := ho _ (List.mem_cons_self ..)
      have l2 := ho _ (List.mem_cons_of_mem _ (List.mem_cons_self ..))
      subst l1; subst l2
      exact ⟨rfl, hg, hg2, hn⟩
    · simp at hp
  · simp at hp
def raLoadS : Hx.Spec := fun args H => match args with
  | [.ptr h 0, .int .i64 i] => match raP H h with
    | some (hw, ⟨W, st, _kd, _wd, _vl, _ch⟩, ob) => some ((0 ≤ i) :: (i < W.length) :: (0 ≤ st) :: (st < 9000000000000000000) :: ob, .int .u64 (W.getD i.toNat 0), (H.set h (ROx hw W (st + 1) 1 i (W.getD i.toNat 0) false)).set hw (WO W))
    | none => none
  | _ => none
theorem raLoadS_ok {args : List SV} {H : List HE} {ob : List Prop} {V : SV} {L : List HE} (hs : raLoadS args H = some (ob, V, L)) (ho : AllP ob) : Gives Tryz.prog 117 args H (Is V L) := by
  unfold raLoadS at hs
  split at hs
  · rename_i _ h i
    split at hs
    · rename_i _ hw W st kd wd vl ch ob' hp
      simp only [Option.some.injEq, Prod.mk.injEq] at hs
      obtain ⟨rfl, rfl, rfl⟩ := hs
      have q1 := ho _ (List.mem_cons_self ..)
      have q2 := ho _ (List.mem_cons_of_mem _ (List.mem_cons_self ..))
      have q3 := ho _ (List.mem_cons_of_mem _ (List.mem_cons_of_mem _ (List.mem_cons_self ..)))
      have q4 := ho _ (List.mem_cons_of_mem _ (List.mem_cons_of_mem _ (List.mem_cons_of_mem _ (List.mem_cons_self ..))))
      obtain ⟨_, g1, g2, g3⟩ := raP_ok hp fun p hp => ho p (by simp [hp])
      exact frame2n (H := H) (h0 := h) (h1 := hw) ⟨_, hTE⟩ (raLoad_fn (s := ⟨W, st, kd, wd, vl, ch⟩) q1 q2 q3 q4) rfl rfl rfl g3 g1 g2 rfl rfl rfl
    · simp at hs
  · simp at hs
def raStoreS : Hx.Spec := fun args H => match args with
  | [.ptr h 0, .int .i64 i, .int .u64 v] => match raP H h with
    | some (hw, ⟨W, st, _kd, _wd, _vl, _ch⟩, ob) => some ((0 ≤ i) :: (i < W.length) :: (0 ≤ st) :: (st < 9000000000000000000) :: ob, .tup [], (H.set h (ROx hw (W.set i.toNat v) (st + 1) 2 i v true)).set hw (WO (W.set i.toNat v)))
    | none => none
  | _ => none
theorem raStoreS_ok {args : List SV} {H : List HE} {ob : List Prop} {V : SV} {L : List HE} (hs : raStoreS args H = some (ob, V, L)) (ho : AllP ob) : Gives Tryz.prog 41 args H (Is V L) := by
  unfold raStoreS at hs
  split at hs
  · rename_i _ h i v
    split at hs
    · rename_i _ hw W st kd wd vl ch ob' hp
      simp only [Option.some.injEq, Prod.mk.injEq] at hs
      obtain ⟨rfl, rfl, rfl⟩ := hs
      have q1 := ho _ (List.mem_cons_self ..)
      have q2 := ho _ (List.mem_cons_of_mem _ (List.mem_cons_self ..))
      have q3 := ho _ (List.mem_cons_of_mem _ (List.mem_cons_of_mem _ (List.mem_cons_self ..)))
      have q4 := ho _ (List.mem_cons_of_mem _ (List.mem_cons_of_mem _ (List.mem_cons_of_mem _ (List.mem_cons_self ..))))
      obtain ⟨_, g1, g2, g3⟩ := raP_ok hp fun p hp => ho p (by simp [hp])
      exact frame2n (H := H) (h0 := h) (h1 := hw) ⟨_, hTE⟩ (raStore_fn (s := ⟨W, st, kd, wd, vl, ch⟩) q1 q2 q3 q4 v) rfl rfl rfl g3 g1 g2 rfl rfl rfl
    · simp at hs
  · simp at hs
/-! What arenas are made. -/
def rmakeS : Hx.Spec := fun args H => match args with
  | [.agg [.int .i64 a0, .int .i64 a1, .int .i64 a2, .int .i64 a3, .int .i64 a4, .int .i64 a5, .int .i64 a6, .int .i64 a7, .int .i64 a8]] =>
    match nums[H.length]?, nums[H.length + 1]? with
    | some n0, some n1 => some ([rightB a0 a1 a2 a3 a4 a5 a6 a7 a8 = true], .ptr n1 0, H ++ [WO (mkA a0 a1 a2 a3 a4 a5 a6 a7 a8).W, ROx n0 (mkA a0 a1 a2 a3 a4 a5 a6 a7 a8).W (mkA a0 a1 a2 a3 a4 a5 a6 a7 a8).st 2 (mkA a0 a1 a2 a3 a4 a5 a6 a7 a8).wd (mkA a0 a1 a2 a3 a4 a5 a6 a7 a8).vl true])
    | _, _ => none
  | _ => none
theorem rmakeS_ok {args : List SV} {H : List HE} {ob : List Prop} {V : SV} {L : List HE} (hs : rmakeS args H = some (ob, V, L)) (ho : AllP ob) : Gives Tryz.prog 34 args H (Is V L) := by
  unfold rmakeS at hs
  split at hs
  · split at hs
    case h_2 => simp at hs
    rename_i n0 n1 e0 e1
    have e0' := nums_get _ _ e0
    have e1' := nums_get _ _ e1
    subst e0'; subst e1'
    simp only [Option.some.injEq, Prod.mk.injEq] at hs
    obtain ⟨rfl, rfl, rfl⟩ := hs
    have q := ho _ (List.mem_cons_self ..)
    have := frame0 (H := H) ⟨_, hTE⟩ (rmake_fn q) rfl rfl
    exact this
  · simp at hs
end Go.Proofs.YtkkddjchkkaagaaGreatDoor
