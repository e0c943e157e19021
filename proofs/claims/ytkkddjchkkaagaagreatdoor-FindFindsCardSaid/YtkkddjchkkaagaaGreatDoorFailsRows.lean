/- Find: rows of what runs tell; entries of a script. -/
import Derived.Test.YtkkddjchkkaagaaGreatDoorFindTold
import Derived.Test.YtkkddjchkkaagaaGreatDoorAsVar
namespace Go.Proofs.YtkkddjchkkaagaaGreatDoor
open Go Go.Hx
set_option maxRecDepth 8000
/-- What a run that finds tells: 0: it is there; 1: why not; 2: it is not done. -/
def ftldS (k : Nat) (T : Nat) (R : Int) (s : FS) : Hx.Spec := fun args H => match args with
  | [.ptr h 0] => match getH H h with
    | some o => match k with
      | 0 => some ([o = fnC (T : Int) R h s, s.ph = 0, s.er = 0], .tup [.agg [.int .i64 s.pl, .int .i64 s.ep, .bool s.lg], .niliface], H.set h (.obj (fnC (T : Int) R h s)))
      | 1 => some ([o = fnC (T : Int) R h s, s.ph = 0, ¬ s.er = 0], .tup [.agg [.int .i64 0, .int .i64 0, .ff], erO s.er], H.set h (.obj (fnC (T : Int) R h s)))
      | _ => some ([o = fnC (T : Int) R h s, 1 ≤ s.ph, s.ph ≤ 4], .tup [.agg [.int .i64 0, .int .i64 0, .ff], erO 13], H.set h (.obj (fnC (T : Int) R h s)))
    | none => none
  | _ => none
theorem fr_f {T : Nat} {R : Int} {s : FS} {h : Nat} {H : List HE} {f : Nat} {V : SV} (hg : getH H h = some (fnC (T : Int) R h s)) (hv : ∀ σ : Nat → Nat, V.ren σ = V) (k : Gives Tryz.prog f [.ptr 0 0] [.obj (fnC (T : Int) R 0 s)] (Is V [.obj (fnC (T : Int) R 0 s)])) :
    Gives Tryz.prog f [.ptr h 0] H (Is V (H.set h (.obj (fnC (T : Int) R h s)))) := by
  have := frame1 (N := []) (H := H) (h0 := h) (ags := [.ptr h 0]) ⟨_, hTE⟩ k rfl rfl (by
    have e1 : (fnC (T : Int) R 0 s).okh (there [.obj (fnC (T : Int) R 0 s)]) = true := okh_fnC rfl
    simp only [okHs, e1, Bool.true_and]) (by rw [ren_fnC]; exact hg) rfl
  rw [hv, ren_fnC] at this
  simp only [List.map_nil, List.append_nil] at this
  exact this
theorem ftldS_ok {k T : Nat} {R : Int} {s : FS} {args : List SV} {H : List HE} {ob : List Prop} {V : SV} {L : List HE} (hs : ftldS k T R s args H = some (ob, V, L)) (ho : AllP ob) : Gives Tryz.prog 13 args H (Is V L) := by
  unfold ftldS at hs
  split at hs
  case h_2 => simp at hs
  rename_i _ h
  split at hs
  case h_2 => simp at hs
  rename_i _ o hg
  split at hs
  all_goals
    simp only [Option.some.injEq, Prod.mk.injEq] at hs
    obtain ⟨rfl, rfl, rfl⟩ := hs
    simp only [AllP, List.mem_cons, List.not_mem_nil, or_false, forall_eq_or_imp, forall_eq] at ho
    obtain ⟨rfl, o2, o3⟩ := ho
    refine fr_f hg (fun σ => rfl) ?_
    obtain ⟨key, ph, seq, i, fd, pl, ep, lg, er, tm⟩ := s
    dsimp only at o2 o3
  · subst o2; subst o3; exact ftld_t
  · subst o2; exact ftld_f o3
  · have hp : ph = 1 ∨ ph = 2 ∨ ph = 3 ∨ ph = 4 := by omega
    rcases hp with rfl | rfl | rfl | rfl
    · exact ftld_1
    · exact ftld_2
    · exact ftld_3
    · exact ftld_4
/-- .. one that lists; g: where what it told lies. -/
def ltldS (k : Nat) (g : Nat) (T : Nat) (R : Int) (s : LS) : Hx.Spec := fun args H => match args with
  | [.ptr h 0] => match s.told with
    | none => match getH H h with
      | some o => match k with
        | 0 => some ([o = lsC (T : Int) R h g s, s.ph = 0, s.er = 0], .tup [.nilslice, .niliface], H.set h (.obj (lsC (T : Int) R h g s)))
        | 1 => some ([o = lsC (T : Int) R h g s, s.ph = 0, ¬ s.er = 0], .tup [.nilslice, erO s.er], H.set h (.obj (lsC (T : Int) R h g s)))
        | _ => some ([o = lsC (T : Int) R h g s, s.ph = 1 ∨ s.ph = 2 ∨ s.ph = 4], .tup [.nilslice, erO 13], H.set h (.obj (lsC (T : Int) R h g s)))
      | none => none
    | some l => match getH H h, getH H g, nums[H.length]?, nodupN [h, g] with
      | some o, some o2, some n, true => match k with
        | 0 => some ([o = lsC (T : Int) R h g s, s.ph = 0, s.er = 0, o2 = .buf .i64 l 1 3, 0 < l.length, l.length ≤ 12], .tup [.sbuf n 1 0 l.length, .niliface], ((H.set h (.obj (lsC (T : Int) R h g s))).set g (bfE l)) ++ [bfE (srt l)])
        | 1 => some ([o = lsC (T : Int) R h g s, s.ph = 0, ¬ s.er = 0, o2 = .buf .i64 l 1 3], .tup [.nilslice, erO s.er], (H.set h (.obj (lsC (T : Int) R h g s))).set g (bfE l))
        | _ => some ([o = lsC (T : Int) R h g s, s.ph = 1 ∨ s.ph = 2 ∨ s.ph = 4, o2 = .buf .i64 l 1 3], .tup [.nilslice, erO 13], (H.set h (.obj (lsC (T : Int) R h g s))).set g (bfE l))
      | _, _, _, _ => none
  | _ => none
theorem fr_l0 {T : Nat} {R : Int} {s : LS} {h g : Nat} {H : List HE} {f : Nat} {V : SV} (ht : s.told = none) (hg : getH H h = some (lsC (T : Int) R h g s)) (hv : ∀ σ : Nat → Nat, V.ren σ = V) (k : Gives Tryz.prog f [.ptr 0 0] [.obj (lsC (T : Int) R 0 1 s)] (Is V [.obj (lsC (T : Int) R 0 1 s)])) :
    Gives Tryz.prog f [.ptr h 0] H (Is V (H.set h (.obj (lsC (T : Int) R h g s)))) := by
  have e0 : ∀ b c : Nat, lsC (T : Int) R h b s = lsC (T : Int) R h c s := fun b c => by unfold lsC; rw [ht]; rfl
  have := frame1 (N := []) (H := H) (h0 := h) (ags := [.ptr h 0]) ⟨_, hTE⟩ k rfl rfl (by
    have e1 : (lsC (T : Int) R 0 1 s).okh (there [.obj (lsC (T : Int) R 0 1 s)]) = true := okh_lsC rfl (fun q => absurd ht q)
    simp only [okHs, e1, Bool.true_and]) (by rw [ren_lsC]; show getH H h = some (lsC (T : Int) R h _ s); rw [e0 _ g]; exact hg) rfl
  rw [hv, ren_lsC] at this
  simp only [List.map_nil, List.append_nil] at this
  have e2 : lsC (T : Int) R (nm [h] H 0) (nm [h] H 1) s = lsC (T : Int) R h g s := e0 _ g
  rw [e2] at this
  exact this
theorem fr_l1 {T : Nat} {R : Int} {s : LS} {l : List Int} {h g : Nat} {H : List HE} {f : Nat} {V : SV} (hnd : nodupN [h, g] = true) (hg : getH H h = some (lsC (T : Int) R h g s)) (hg2 : getH H g = some (.buf .i64 l 1 3)) (hv : ∀ σ : Nat → Nat, V.ren σ = V) (k : Gives Tryz.prog f [.ptr 0 0] [.obj (lsC (T : Int) R 0 1 s), bfE l] (Is V [.obj (lsC (T : Int) R 0 1 s), bfE l])) :
    Gives Tryz.prog f [.ptr h 0] H (Is V ((H.set h (.obj (lsC (T : Int) R h g s))).set g (bfE l))) :=
  frame2n (H := H) (h0 := h) (h1 := g) (ags := [.ptr h 0]) ⟨_, hTE⟩ k rfl rfl (by
    have e1 : (lsC (T : Int) R 0 1 s).okh (there [.obj (lsC (T : Int) R 0 1 s), bfE l]) = true := okh_lsC rfl (fun _ => rfl)
    simp only [okHs, e1, Bool.true_and]; rfl) hnd (by rw [ren_lsC]; exact hg) hg2 (hv _) (by rw [ren_lsC]; rfl) rfl
theorem ltldS_ok {k g T : Nat} {R : Int} {s : LS} {args : List SV} {H : List HE} {ob : List Prop} {V : SV} {L : List HE} (hs : ltldS k g T R s args H = some (ob, V, L)) (ho : AllP ob) : Gives Tryz.prog 14 args H (Is V L) := by
  unfold ltldS at hs
  split at hs
  case h_2 => simp at hs
  rename_i _ h
  split at hs
  · rename_i ht
    split at hs
    case h_2 => simp at hs
    rename_i _ o hg
    split at hs
    all_goals
      simp only [Option.some.injEq, Prod.mk.injEq] at hs
      obtain ⟨rfl, rfl, rfl⟩ := hs
      simp only [AllP, List.mem_cons, List.not_mem_nil, or_false, forall_eq_or_imp, forall_eq] at ho
    · obtain ⟨rfl, o2, o3⟩ := ho
      refine fr_l0 ht hg (fun σ => rfl) ?_
      obtain ⟨ph, seq, i, fd, told, er, tm⟩ := s
      dsimp only at o2 o3 ht
      subst o2; subst o3; subst ht; exact ltld_n
    · obtain ⟨rfl, o2, o3⟩ := ho
      refine fr_l0 ht hg (fun σ => rfl) ?_
      obtain ⟨ph, seq, i, fd, told, er, tm⟩ := s
      dsimp only at o2 o3 ht
      subst o2; subst ht; exact ltld_f0 o3
    · obtain ⟨rfl, o2⟩ := ho
      refine fr_l0 ht hg (fun σ => rfl) ?_
      obtain ⟨ph, seq, i, fd, told, er, tm⟩ := s
      dsimp only at o2 ht
      subst ht
      rcases o2 with rfl | rfl | rfl
      · exact ltld_10
      · exact ltld_20
      · exact ltld_40
  · rename_i l ht
    split at hs
    case h_2 => simp at hs
    rename_i _ _ _ _ o o2' n hg hg2 t0 hnd
    have t0' := nums_get _ _ t0
    subst t0'
    split at hs
    all_goals
      simp only [Option.some.injEq, Prod.mk.injEq] at hs
      obtain ⟨rfl, rfl, rfl⟩ := hs
      simp only [AllP, List.mem_cons, List.not_mem_nil, or_false, forall_eq_or_imp, forall_eq] at ho
    · obtain ⟨rfl, o2, o3, rfl, o5, o6⟩ := ho
      obtain ⟨ph, seq, i, fd, told, er, tm⟩ := s
      dsimp only at o2 o3 ht
      subst o2; subst o3; subst ht
      have key := frame2 (N := [_]) (H := H) (h0 := h) (h1 := g) (ags := [.ptr h 0]) ⟨_, hTE⟩ (ltld_s (T := (T : Int)) (R := R) (seq := seq) (i := i) (fd := fd) (tm := tm) o5 o6) rfl rfl (by
        have e1 : (lsC (T : Int) R 0 1 ⟨0, seq, i, fd, some l, 0, tm⟩).okh (there [.obj (lsC (T : Int) R 0 1 ⟨0, seq, i, fd, some l, 0, tm⟩), bfE l]) = true := okh_lsC rfl (fun _ => rfl)
        simp only [okHs, e1, Bool.true_and]; rfl) hnd (by rw [ren_lsC]; exact hg) hg2 rfl
      rw [ren_lsC] at key
      exact key
    · obtain ⟨rfl, o2, o3, rfl⟩ := ho
      refine fr_l1 hnd hg hg2 (fun σ => rfl) ?_
      obtain ⟨ph, seq, i, fd, told, er, tm⟩ := s
      dsimp only at o2 o3 ht
      subst o2; subst ht; exact ltld_f1 o3
    · obtain ⟨rfl, o2, rfl⟩ := ho
      refine fr_l1 hnd hg hg2 (fun σ => rfl) ?_
      obtain ⟨ph, seq, i, fd, told, er, tm⟩ := s
      dsimp only at o2 ht
      subst ht
      rcases o2 with rfl | rfl | rfl
      · exact ltld_11
      · exact ltld_21
      · exact ltld_41
/-! Of the script. -/
theorem config19_fn (l0 l1 : Int) : Gives Tryz.prog 24 [L2 l0 l1] [] (Is (C9 (cAnd 7 l0) 4 1 2 4 1 6 0 (cAnd 3 l1)) []) := by
  refine gives_x hXR (fn := Tryz.f24) rfl rfl rfl rfl fun ρ w => ?_
  refine sx hXR [] 4000 rfl (by (simp [-List.getD_eq_getElem?_getD, -List.length_eq_zero_iff, conjP, getH, HE.so])) ?_
  (exact ss_end hXR [] rfl rfl trivial rfl rfl rfl rfl (by (repeat' (first | exact rfl | exact trivial | exact sim_refl _ | refine And.intro ?_ ?_))) (by (repeat' (first | exact rfl | exact trivial | exact sim_refl _ | refine And.intro ?_ ?_))) (by (repeat' (first | exact rfl | exact trivial | exact sim_refl _ | refine And.intro ?_ ?_))) (by (repeat' (first | exact rfl | exact trivial | exact sim_refl _ | refine And.intro ?_ ?_))))
def ctGv : Nat → Option Hx.Spec
  | 59 => some (pureS fkeyS)
  | 78 => some (pureS fentS)
  | _ => none
theorem ctGv_ok : ∀ f s args H ob V L, ctGv f = some s → s args H = some (ob, V, L) → AllP ob → Gives Tryz.prog f args H (Is V L) := by
  intro f s args H ob V L h hs ho
  unfold ctGv at h
  split at h
  · simp at h; subst h; exact pureS_ok ⟨_, hTE⟩ (fkeyS_ok) hs ho
  · simp at h; subst h; exact pureS_ok ⟨_, hTE⟩ (fentS_ok) hs ho
  · simp at h
noncomputable def XGv : Tabs := tabs tr ft xt (fun _ => none) ctGv 20
theorem hXGv : TOk Tryz.prog (XGv) := ⟨hTE, hFT, ctGv_ok, hXT, fun t ks h => by simp [XGv, tabs] at h, mixed⟩
set_option maxHeartbeats 4000000 in
theorem awake19_fn : Gives Tryz.prog 15 [] [] (Is .tt []) := by
  have e1 : isK 23 = true := by decide
  have e2 : kyW 23 = 5 := by decide
  have e3 : lgW 23 = true := by decide
  have e4 : IntKind.i64.wrap 20 = 20 := by rw [IntKind.wrap_i64]; rfl
  have e5 : IntKind.i64.wrap 23 = 23 := by rw [IntKind.wrap_i64]; rfl
  have e6 : IntKind.u64.wrap 23 = 23 := by rw [IntKind.wrap_u64]; rfl
  refine gives_x hXGv (fn := Tryz.f15) rfl rfl rfl rfl fun ρ w => ?_
  refine sx hXGv [] 4000 rfl (by (simp [-List.getD_eq_getElem?_getD, -List.length_eq_zero_iff, conjP])) ?_
  refine sx hXGv [.T] 4000 rfl (by (simp [-List.getD_eq_getElem?_getD, -List.length_eq_zero_iff, conjP, addOP])) ?_
  refine sx hXGv [.F] 4000 rfl (by (simp [-List.getD_eq_getElem?_getD, -List.length_eq_zero_iff, conjP, addOP])) ?_
  refine sx hXGv [.T] 4000 rfl (by (simp [-List.getD_eq_getElem?_getD, -List.length_eq_zero_iff, conjP, addOP, e4, e5, e6])) ?_
  refine sx hXGv [.T] 4000 rfl (by (simp [-List.getD_eq_getElem?_getD, -List.length_eq_zero_iff, conjP, addOP, e2])) ?_
  refine sx hXGv [.T] 4000 rfl (by (simp [-List.getD_eq_getElem?_getD, -List.length_eq_zero_iff, conjP, addOP, e3])) ?_
  (refine ss_end hXGv [] rfl rfl trivial rfl rfl rfl rfl ?hv ?hh ?hk ?ho; (case hv => first | exact rfl | exact e1); (case hh => (repeat' (first | exact rfl | exact trivial | exact sim_refl _ | refine And.intro ?_ ?_))); (case hk => (repeat' (first | exact rfl | exact trivial | exact sim_refl _ | refine And.intro ?_ ?_))); (case ho => (repeat' (first | exact rfl | exact trivial | exact sim_refl _ | refine And.intro ?_ ?_))))
section
variable {a k c : Int} {b : Bool}
end
/-- cause.Top, where the laid variable is the second thing. -/
def topFS : Hx.Spec := fun args H => match args with
  | [.niliface] => some ([], .int .i64 0, H)
  | [.iface 35 (.int .i64 n)] => match H with
    | _ :: .obj (.pin 0 v) :: _ => some ([v = RTV], .int .i64 n, H)
    | _ => none
  | _ => none
theorem topFS_ok {args : List SV} {H : List HE} {ob : List Prop} {V : SV} {L : List HE} (hs : topFS args H = some (ob, V, L)) (ho : AllP ob) : Gives Tryz.prog 18 args H (Is V L) := by
  unfold topFS at hs
  split at hs
  · exact topS_ok (by unfold topS; exact hs) ho
  · rename_i _ n
    split at hs
    · rename_i _ e v r
      simp only [Option.some.injEq, Prod.mk.injEq] at hs
      obtain ⟨rfl, rfl, rfl⟩ := hs
      have hv := ho _ (List.mem_cons_self ..)
      subst hv
      have := frame1 (H := e :: pinE RTV :: r) (h0 := 1) (N := []) ⟨_, hTE⟩ (top_code n) rfl rfl rfl rfl rfl
      simp only [List.map_nil, List.append_nil, SO.ren] at this
      exact this
    · simp at hs
  · simp at hs
end Go.Proofs.YtkkddjchkkaagaaGreatDoor
