/- FindPlays: whether a run is done, and its time. -/
import Derived.Test.YtkkddjchkkaagaaGreatDoorFailsRows
import Derived.Test.YtkkddjchkkaagaaGreatDoorFailsWorld
import Derived.Test.YtkkddjchkkaagaaGreatDoorPlaysLaw

namespace Go.Proofs.YtkkddjchkkaagaaGreatDoor
open Go Go.Hx
set_option maxRecDepth 8000
section
variable {T : Int} {R : Int} {key seq : Int} {i : Nat} {fd pl ep : Int} {lg : Bool} {er tm : Int}
theorem fDone0 : Gives Tryz.prog 17 [.ptr 0 0] [.obj (fnC T R 0 ⟨key, 0, seq, i, fd, pl, ep, lg, er, tm⟩)] (Is (.bool (decide ((0 : Nat) = 0))) [.obj (fnC T R 0 ⟨key, 0, seq, i, fd, pl, ep, lg, er, tm⟩)]) := by
  refine gives_x hXR (fn := Tryz.f17) rfl rfl rfl rfl fun ρ w => ?_
  dsimp only [fnC, fnx]
  refine sx hXR [] 4000 rfl (by (simp [-List.getD_eq_getElem?_getD, -List.length_eq_zero_iff, conjP])) ?_
  (refine ss_end hXR [0] rfl rfl trivial rfl rfl rfl rfl ?hv ?hh ?hk ?ho; (case hv => exact clF); (case hh => exact clF); (case hk => exact clF); (case ho => exact clF))
theorem fDone1 : Gives Tryz.prog 17 [.ptr 0 0] [.obj (fnC T R 0 ⟨key, 1, seq, i, fd, pl, ep, lg, er, tm⟩)] (Is (.bool (decide ((1 : Nat) = 0))) [.obj (fnC T R 0 ⟨key, 1, seq, i, fd, pl, ep, lg, er, tm⟩)]) := by
  refine gives_x hXR (fn := Tryz.f17) rfl rfl rfl rfl fun ρ w => ?_
  dsimp only [fnC, fnx]
  refine sx hXR [] 4000 rfl (by (simp [-List.getD_eq_getElem?_getD, -List.length_eq_zero_iff, conjP])) ?_
  (refine ss_end hXR [0] rfl rfl trivial rfl rfl rfl rfl ?hv ?hh ?hk ?ho; (case hv => exact clF); (case hh => exact clF); (case hk => exact clF); (case ho => exact clF))
theorem fDone2 : Gives Tryz.prog 17 [.ptr 0 0] [.obj (fnC T R 0 ⟨key, 2, seq, i, fd, pl, ep, lg, er, tm⟩)] (Is (.bool (decide ((2 : Nat) = 0))) [.obj (fnC T R 0 ⟨key, 2, seq, i, fd, pl, ep, lg, er, tm⟩)]) := by
  refine gives_x hXR (fn := Tryz.f17) rfl rfl rfl rfl fun ρ w => ?_
  dsimp only [fnC, fnx]
  refine sx hXR [] 4000 rfl (by (simp [-List.getD_eq_getElem?_getD, -List.length_eq_zero_iff, conjP])) ?_
  (refine ss_end hXR [0] rfl rfl trivial rfl rfl rfl rfl ?hv ?hh ?hk ?ho; (case hv => exact clF); (case hh => exact clF); (case hk => exact clF); (case ho => exact clF))
theorem fDone3 : Gives Tryz.prog 17 [.ptr 0 0] [.obj (fnC T R 0 ⟨key, 3, seq, i, fd, pl, ep, lg, er, tm⟩)] (Is (.bool (decide ((3 : Nat) = 0))) [.obj (fnC T R 0 ⟨key, 3, seq, i, fd, pl, ep, lg, er, tm⟩)]) := by
  refine gives_x hXR (fn := Tryz.f17) rfl rfl rfl rfl fun ρ w => ?_
  dsimp only [fnC, fnx]
  refine sx hXR [] 4000 rfl (by (simp [-List.getD_eq_getElem?_getD, -List.length_eq_zero_iff, conjP])) ?_
  (refine ss_end hXR [0] rfl rfl trivial rfl rfl rfl rfl ?hv ?hh ?hk ?ho; (case hv => exact clF); (case hh => exact clF); (case hk => exact clF); (case ho => exact clF))
theorem fDone4 : Gives Tryz.prog 17 [.ptr 0 0] [.obj (fnC T R 0 ⟨key, 4, seq, i, fd, pl, ep, lg, er, tm⟩)] (Is (.bool (decide ((4 : Nat) = 0))) [.obj (fnC T R 0 ⟨key, 4, seq, i, fd, pl, ep, lg, er, tm⟩)]) := by
  refine gives_x hXR (fn := Tryz.f17) rfl rfl rfl rfl fun ρ w => ?_
  dsimp only [fnC, fnx]
  refine sx hXR [] 4000 rfl (by (simp [-List.getD_eq_getElem?_getD, -List.length_eq_zero_iff, conjP])) ?_
  (refine ss_end hXR [0] rfl rfl trivial rfl rfl rfl rfl ?hv ?hh ?hk ?ho; (case hv => exact clF); (case hh => exact clF); (case hk => exact clF); (case ho => exact clF))
theorem lDone0n : Gives Tryz.prog 21 [.ptr 0 0] [.obj (lsC T R 0 1 ⟨0, seq, i, fd, none, er, tm⟩)] (Is (.bool (decide ((0 : Nat) = 0))) [.obj (lsC T R 0 1 ⟨0, seq, i, fd, none, er, tm⟩)]) := by
  refine gives_x hXR (fn := Tryz.f21) rfl rfl rfl rfl fun ρ w => ?_
  dsimp only [lsC, lnx, slV]
  refine sx hXR [] 4000 rfl (by (simp [-List.getD_eq_getElem?_getD, -List.length_eq_zero_iff, conjP])) ?_
  (refine ss_end hXR [0] rfl rfl trivial rfl rfl rfl rfl ?hv ?hh ?hk ?ho; (case hv => exact clF); (case hh => exact clF); (case hk => exact clF); (case ho => exact clF))
theorem lDone0s {l : List Int} : Gives Tryz.prog 21 [.ptr 0 0] [.obj (lsC T R 0 1 ⟨0, seq, i, fd, (some l), er, tm⟩), bfE l] (Is (.bool (decide ((0 : Nat) = 0))) [.obj (lsC T R 0 1 ⟨0, seq, i, fd, (some l), er, tm⟩), bfE l]) := by
  refine gives_x hXR (fn := Tryz.f21) rfl rfl rfl rfl fun ρ w => ?_
  dsimp only [lsC, lnx, slV]
  refine sx hXR [] 4000 rfl (by (simp [-List.getD_eq_getElem?_getD, -List.length_eq_zero_iff, conjP])) ?_
  (refine ss_end hXR [0, 1] rfl rfl trivial rfl rfl rfl rfl ?hv ?hh ?hk ?ho; (case hv => exact clF); (case hh => exact clF); (case hk => exact clF); (case ho => exact clF))
theorem lDone1n : Gives Tryz.prog 21 [.ptr 0 0] [.obj (lsC T R 0 1 ⟨1, seq, i, fd, none, er, tm⟩)] (Is (.bool (decide ((1 : Nat) = 0))) [.obj (lsC T R 0 1 ⟨1, seq, i, fd, none, er, tm⟩)]) := by
  refine gives_x hXR (fn := Tryz.f21) rfl rfl rfl rfl fun ρ w => ?_
  dsimp only [lsC, lnx, slV]
  refine sx hXR [] 4000 rfl (by (simp [-List.getD_eq_getElem?_getD, -List.length_eq_zero_iff, conjP])) ?_
  (refine ss_end hXR [0] rfl rfl trivial rfl rfl rfl rfl ?hv ?hh ?hk ?ho; (case hv => exact clF); (case hh => exact clF); (case hk => exact clF); (case ho => exact clF))
theorem lDone1s {l : List Int} : Gives Tryz.prog 21 [.ptr 0 0] [.obj (lsC T R 0 1 ⟨1, seq, i, fd, (some l), er, tm⟩), bfE l] (Is (.bool (decide ((1 : Nat) = 0))) [.obj (lsC T R 0 1 ⟨1, seq, i, fd, (some l), er, tm⟩), bfE l]) := by
  refine gives_x hXR (fn := Tryz.f21) rfl rfl rfl rfl fun ρ w => ?_
  dsimp only [lsC, lnx, slV]
  refine sx hXR [] 4000 rfl (by (simp [-List.getD_eq_getElem?_getD, -List.length_eq_zero_iff, conjP])) ?_
  (refine ss_end hXR [0, 1] rfl rfl trivial rfl rfl rfl rfl ?hv ?hh ?hk ?ho; (case hv => exact clF); (case hh => exact clF); (case hk => exact clF); (case ho => exact clF))
theorem lDone2n : Gives Tryz.prog 21 [.ptr 0 0] [.obj (lsC T R 0 1 ⟨2, seq, i, fd, none, er, tm⟩)] (Is (.bool (decide ((2 : Nat) = 0))) [.obj (lsC T R 0 1 ⟨2, seq, i, fd, none, er, tm⟩)]) := by
  refine gives_x hXR (fn := Tryz.f21) rfl rfl rfl rfl fun ρ w => ?_
  dsimp only [lsC, lnx, slV]
  refine sx hXR [] 4000 rfl (by (simp [-List.getD_eq_getElem?_getD, -List.length_eq_zero_iff, conjP])) ?_
  (refine ss_end hXR [0] rfl rfl trivial rfl rfl rfl rfl ?hv ?hh ?hk ?ho; (case hv => exact clF); (case hh => exact clF); (case hk => exact clF); (case ho => exact clF))
theorem lDone2s {l : List Int} : Gives Tryz.prog 21 [.ptr 0 0] [.obj (lsC T R 0 1 ⟨2, seq, i, fd, (some l), er, tm⟩), bfE l] (Is (.bool (decide ((2 : Nat) = 0))) [.obj (lsC T R 0 1 ⟨2, seq, i, fd, (some l), er, tm⟩), bfE l]) := by
  refine gives_x hXR (fn := Tryz.f21) rfl rfl rfl rfl fun ρ w => ?_
  dsimp only [lsC, lnx, slV]
  refine sx hXR [] 4000 rfl (by (simp [-List.getD_eq_getElem?_getD, -List.length_eq_zero_iff, conjP])) ?_
  (refine ss_end hXR [0, 1] rfl rfl trivial rfl rfl rfl rfl ?hv ?hh ?hk ?ho; (case hv => exact clF); (case hh => exact clF); (case hk => exact clF); (case ho => exact clF))
theorem lDone4n : Gives Tryz.prog 21 [.ptr 0 0] [.obj (lsC T R 0 1 ⟨4, seq, i, fd, none, er, tm⟩)] (Is (.bool (decide ((4 : Nat) = 0))) [.obj (lsC T R 0 1 ⟨4, seq, i, fd, none, er, tm⟩)]) := by
  refine gives_x hXR (fn := Tryz.f21) rfl rfl rfl rfl fun ρ w => ?_
  dsimp only [lsC, lnx, slV]
  refine sx hXR [] 4000 rfl (by (simp [-List.getD_eq_getElem?_getD, -List.length_eq_zero_iff, conjP])) ?_
  (refine ss_end hXR [0] rfl rfl trivial rfl rfl rfl rfl ?hv ?hh ?hk ?ho; (case hv => exact clF); (case hh => exact clF); (case hk => exact clF); (case ho => exact clF))
theorem lDone4s {l : List Int} : Gives Tryz.prog 21 [.ptr 0 0] [.obj (lsC T R 0 1 ⟨4, seq, i, fd, (some l), er, tm⟩), bfE l] (Is (.bool (decide ((4 : Nat) = 0))) [.obj (lsC T R 0 1 ⟨4, seq, i, fd, (some l), er, tm⟩), bfE l]) := by
  refine gives_x hXR (fn := Tryz.f21) rfl rfl rfl rfl fun ρ w => ?_
  dsimp only [lsC, lnx, slV]
  refine sx hXR [] 4000 rfl (by (simp [-List.getD_eq_getElem?_getD, -List.length_eq_zero_iff, conjP])) ?_
  (refine ss_end hXR [0, 1] rfl rfl trivial rfl rfl rfl rfl ?hv ?hh ?hk ?ho; (case hv => exact clF); (case hh => exact clF); (case hk => exact clF); (case ho => exact clF))
end
def fDoneS (T : Nat) (R : Int) (s : FS) : Hx.Spec := fun args H => match args with
  | [.ptr h 0] => match getH H h with
    | some o => some ([o = fnC (T : Int) R h s, s.ph ≤ 4], .bool (decide (s.ph = 0)), H.set h (.obj (fnC (T : Int) R h s)))
    | none => none
  | _ => none
theorem fDoneS_ok {T : Nat} {R : Int} {s : FS} {args : List SV} {H : List HE} {ob : List Prop} {V : SV} {L : List HE} (hs : fDoneS T R s args H = some (ob, V, L)) (ho : AllP ob) : Gives Tryz.prog 17 args H (Is V L) := by
  unfold fDoneS at hs
  split at hs
  case h_2 => simp at hs
  rename_i _ h
  split at hs
  case h_2 => simp at hs
  rename_i _ o hg
  simp only [Option.some.injEq, Prod.mk.injEq] at hs
  obtain ⟨rfl, rfl, rfl⟩ := hs
  simp only [AllP, List.mem_cons, List.not_mem_nil, or_false, forall_eq_or_imp, forall_eq] at ho
  obtain ⟨rfl, o2⟩ := ho
  refine fr_f hg (fun σ => rfl) ?_
  obtain ⟨key, ph, seq, i, fd, pl, ep, lg, er, tm⟩ := s
  dsimp only at o2 ⊢
  have hp : ph = 0 ∨ ph = 1 ∨ ph = 2 ∨ ph = 3 ∨ ph = 4 := by omega
  rcases hp with rfl | rfl | rfl | rfl | rfl
  · exact fDone0
  · exact fDone1
  · exact fDone2
  · exact fDone3
  · exact fDone4
def lDoneS (g : Nat) (T : Nat) (R : Int) (s : LS) : Hx.Spec := fun args H => match args with
  | [.ptr h 0] => match s.told with
    | none => match getH H h with
      | some o => some ([o = lsC (T : Int) R h g s, s.ph = 0 ∨ s.ph = 1 ∨ s.ph = 2 ∨ s.ph = 4], .bool (decide (s.ph = 0)), H.set h (.obj (lsC (T : Int) R h g s)))
      | none => none
    | some l => match getH H h, getH H g, nodupN [h, g] with
      | some o, some o2, true => some ([o = lsC (T : Int) R h g s, s.ph = 0 ∨ s.ph = 1 ∨ s.ph = 2 ∨ s.ph = 4, o2 = .buf .i64 l 1 3], .bool (decide (s.ph = 0)), (H.set h (.obj (lsC (T : Int) R h g s))).set g (bfE l))
      | _, _, _ => none
  | _ => none
theorem lDoneS_ok {g T : Nat} {R : Int} {s : LS} {args : List SV} {H : List HE} {ob : List Prop} {V : SV} {L : List HE} (hs : lDoneS g T R s args H = some (ob, V, L)) (ho : AllP ob) : Gives Tryz.prog 21 args H (Is V L) := by
  unfold lDoneS at hs
  split at hs
  case h_2 => simp at hs
  rename_i _ h
  split at hs
  · rename_i ht
    split at hs
    case h_2 => simp at hs
    rename_i _ o hg
    simp only [Option.some.injEq, Prod.mk.injEq] at hs
    obtain ⟨rfl, rfl, rfl⟩ := hs
    simp only [AllP, List.mem_cons, List.not_mem_nil, or_false, forall_eq_or_imp, forall_eq] at ho
    obtain ⟨rfl, o2⟩ := ho
    refine fr_l0 ht hg (fun σ => rfl) ?_
    obtain ⟨ph, seq, i, fd, told, er, tm⟩ := s
    dsimp only at o2 ht ⊢
    subst ht
    rcases o2 with rfl | rfl | rfl | rfl
    · exact lDone0n
    · exact lDone1n
    · exact lDone2n
    · exact lDone4n
  · rename_i l ht
    split at hs
    case h_2 => simp at hs
    rename_i _ _ _ o o2' hg hg2 hnd
    simp only [Option.some.injEq, Prod.mk.injEq] at hs
    obtain ⟨rfl, rfl, rfl⟩ := hs
    simp only [AllP, List.mem_cons, List.not_mem_nil, or_false, forall_eq_or_imp, forall_eq] at ho
    obtain ⟨rfl, o2, rfl⟩ := ho
    refine fr_l1 hnd hg hg2 (fun σ => rfl) ?_
    obtain ⟨ph, seq, i, fd, told, er, tm⟩ := s
    dsimp only at o2 ht ⊢
    subst ht
    rcases o2 with rfl | rfl | rfl | rfl
    · exact lDone0s
    · exact lDone1s
    · exact lDone2s
    · exact lDone4s
end Go.Proofs.YtkkddjchkkaagaaGreatDoor

/- FindPlays: the world of a turn, and what is so. -/
namespace Go.Proofs.YtkkddjchkkaagaaGreatDoor
open Go Go.Hx
set_option maxRecDepth 8000
/-- Topics and steps are compared part by part. -/
def etP : Nat → Option (List (Option IntKind))
  | 25 => some [some .i64, some .i64, none]
  | 61 => some [some .i64, some .i64, some .u64, none]
  | _ => none
theorem etP_ok : ∀ t ks, etP t = some ks → EqOk Tryz.prog t ks := by
  intro t ks h
  unfold etP at h
  split at h
  · simp at h; subst h
    exact eqOk_of (by kernel_rfl) (by kernel_rfl)
  · simp at h; subst h
    exact eqOk_of (by kernel_rfl) (by kernel_rfl)
  · simp at h
abbrev cfPE (T R : Int) : HE := .obj (.cells [.int .i64 T, .int .i64 4, .int .i64 1, .int .i64 2, .int .i64 4, .int .i64 1, .int .i64 6, .int .i64 0, .int .i64 R] 43)
def downLq : List KI → List KI
  | [] => []
  | .lp I :: k => .lp I :: k
  | _ :: r => downLq r
section
end
end Go.Proofs.YtkkddjchkkaagaaGreatDoor
