/- FindPlays: whether a run is done, and its time. -/
import Derived.Test.YtkkddjchkkaagaaGreatDoorFailsRows
import Derived.Test.YtkkddjchkkaagaaGreatDoorFailsWorld
import Derived.Test.YtkkddjchkkaagaaGreatDoorPlaysLaw
import Derived.Test.YtkkddjchkkaagaaGreatDoorPlTurns

namespace Go.Proofs.YtkkddjchkkaagaaGreatDoor
open Go Go.Hx
set_option maxRecDepth 8000
section
variable {T : Int} {R : Int} {key seq : Int} {i : Nat} {fd pl ep : Int} {lg : Bool} {er tm : Int}
theorem fDone0 : Gives Tryz.prog 17 [.ptr 0 0] [.obj (fnC T R 0 ⟨key, 0, seq, i, fd, pl, ep, lg, er, tm⟩)] (Is (.bool (decide ((0 : Nat) = 0))) [.obj (fnC T R 0 ⟨key, 0, seq, i, fd, pl, ep, lg, er, tm⟩)]) := by
  refine gives_x hXR (fn := Tryz.f17) rfl rfl rfl rfl fun ρ w => ?_
  dsimp only [fnC, fnx]
  refine sx hXR [] 4000 rfl (by (simp [-List.getD_eq_getElem?_getD, -List.length_eq_zero_iff, conjP])) ?_
  (refine ss_end hXR [0] rfl rfl trivial rfl rfl rfl rfl ?hv ?hh ?hk ?ho; (case hv => exact clF); (case hh => exact clF); (case hk => exact clF); (case ho => exact clF))
theorem fCommit0 : Gives Tryz.prog 19 [.ptr 0 0] [.obj (fnC T R 0 ⟨key, 0, seq, i, fd, pl, ep, lg, er, tm⟩)] (Is (.int .i64 tm) [.obj (fnC T R 0 ⟨key, 0, seq, i, fd, pl, ep, lg, er, tm⟩)]) := by
  refine gives_x hXR (fn := Tryz.f19) rfl rfl rfl rfl fun ρ w => ?_
  dsimp only [fnC, fnx]
  refine sx hXR [] 4000 rfl (by (simp [-List.getD_eq_getElem?_getD, -List.length_eq_zero_iff, conjP])) ?_
  (refine ss_end hXR [0] rfl rfl trivial rfl rfl rfl rfl ?hv ?hh ?hk ?ho; (case hv => exact clF); (case hh => exact clF); (case hk => exact clF); (case ho => exact clF))
theorem fDone1 : Gives Tryz.prog 17 [.ptr 0 0] [.obj (fnC T R 0 ⟨key, 1, seq, i, fd, pl, ep, lg, er, tm⟩)] (Is (.bool (decide ((1 : Nat) = 0))) [.obj (fnC T R 0 ⟨key, 1, seq, i, fd, pl, ep, lg, er, tm⟩)]) := by
  refine gives_x hXR (fn := Tryz.f17) rfl rfl rfl rfl fun ρ w => ?_
  dsimp only [fnC, fnx]
  refine sx hXR [] 4000 rfl (by (simp [-List.getD_eq_getElem?_getD, -List.length_eq_zero_iff, conjP])) ?_
  (refine ss_end hXR [0] rfl rfl trivial rfl rfl rfl rfl ?hv ?hh ?hk ?ho; (case hv => exact clF); (case hh => exact clF); (case hk => exact clF); (case ho => exact clF))
theorem fCommit1 : Gives Tryz.prog 19 [.ptr 0 0] [.obj (fnC T R 0 ⟨key, 1, seq, i, fd, pl, ep, lg, er, tm⟩)] (Is (.int .i64 0) [.obj (fnC T R 0 ⟨key, 1, seq, i, fd, pl, ep, lg, er, tm⟩)]) := by
  refine gives_x hXR (fn := Tryz.f19) rfl rfl rfl rfl fun ρ w => ?_
  dsimp only [fnC, fnx]
  refine sx hXR [] 4000 rfl (by (simp [-List.getD_eq_getElem?_getD, -List.length_eq_zero_iff, conjP])) ?_
  (refine ss_end hXR [0] rfl rfl trivial rfl rfl rfl rfl ?hv ?hh ?hk ?ho; (case hv => exact clF); (case hh => exact clF); (case hk => exact clF); (case ho => exact clF))
theorem fDone2 : Gives Tryz.prog 17 [.ptr 0 0] [.obj (fnC T R 0 ⟨key, 2, seq, i, fd, pl, ep, lg, er, tm⟩)] (Is (.bool (decide ((2 : Nat) = 0))) [.obj (fnC T R 0 ⟨key, 2, seq, i, fd, pl, ep, lg, er, tm⟩)]) := by
  refine gives_x hXR (fn := Tryz.f17) rfl rfl rfl rfl fun ρ w => ?_
  dsimp only [fnC, fnx]
  refine sx hXR [] 4000 rfl (by (simp [-List.getD_eq_getElem?_getD, -List.length_eq_zero_iff, conjP])) ?_
  (refine ss_end hXR [0] rfl rfl trivial rfl rfl rfl rfl ?hv ?hh ?hk ?ho; (case hv => exact clF); (case hh => exact clF); (case hk => exact clF); (case ho => exact clF))
theorem fCommit2 : Gives Tryz.prog 19 [.ptr 0 0] [.obj (fnC T R 0 ⟨key, 2, seq, i, fd, pl, ep, lg, er, tm⟩)] (Is (.int .i64 0) [.obj (fnC T R 0 ⟨key, 2, seq, i, fd, pl, ep, lg, er, tm⟩)]) := by
  refine gives_x hXR (fn := Tryz.f19) rfl rfl rfl rfl fun ρ w => ?_
  dsimp only [fnC, fnx]
  refine sx hXR [] 4000 rfl (by (simp [-List.getD_eq_getElem?_getD, -List.length_eq_zero_iff, conjP])) ?_
  (refine ss_end hXR [0] rfl rfl trivial rfl rfl rfl rfl ?hv ?hh ?hk ?ho; (case hv => exact clF); (case hh => exact clF); (case hk => exact clF); (case ho => exact clF))
theorem fDone3 : Gives Tryz.prog 17 [.ptr 0 0] [.obj (fnC T R 0 ⟨key, 3, seq, i, fd, pl, ep, lg, er, tm⟩)] (Is (.bool (decide ((3 : Nat) = 0))) [.obj (fnC T R 0 ⟨key, 3, seq, i, fd, pl, ep, lg, er, tm⟩)]) := by
  refine gives_x hXR (fn := Tryz.f17) rfl rfl rfl rfl fun ρ w => ?_
  dsimp only [fnC, fnx]
  refine sx hXR [] 4000 rfl (by (simp [-List.getD_eq_getElem?_getD, -List.length_eq_zero_iff, conjP])) ?_
  (refine ss_end hXR [0] rfl rfl trivial rfl rfl rfl rfl ?hv ?hh ?hk ?ho; (case hv => exact clF); (case hh => exact clF); (case hk => exact clF); (case ho => exact clF))
theorem fCommit3 : Gives Tryz.prog 19 [.ptr 0 0] [.obj (fnC T R 0 ⟨key, 3, seq, i, fd, pl, ep, lg, er, tm⟩)] (Is (.int .i64 0) [.obj (fnC T R 0 ⟨key, 3, seq, i, fd, pl, ep, lg, er, tm⟩)]) := by
  refine gives_x hXR (fn := Tryz.f19) rfl rfl rfl rfl fun ρ w => ?_
  dsimp only [fnC, fnx]
  refine sx hXR [] 4000 rfl (by (simp [-List.getD_eq_getElem?_getD, -List.length_eq_zero_iff, conjP])) ?_
  (refine ss_end hXR [0] rfl rfl trivial rfl rfl rfl rfl ?hv ?hh ?hk ?ho; (case hv => exact clF); (case hh => exact clF); (case hk => exact clF); (case ho => exact clF))
theorem fDone4 : Gives Tryz.prog 17 [.ptr 0 0] [.obj (fnC T R 0 ⟨key, 4, seq, i, fd, pl, ep, lg, er, tm⟩)] (Is (.bool (decide ((4 : Nat) = 0))) [.obj (fnC T R 0 ⟨key, 4, seq, i, fd, pl, ep, lg, er, tm⟩)]) := by
  refine gives_x hXR (fn := Tryz.f17) rfl rfl rfl rfl fun ρ w => ?_
  dsimp only [fnC, fnx]
  refine sx hXR [] 4000 rfl (by (simp [-List.getD_eq_getElem?_getD, -List.length_eq_zero_iff, conjP])) ?_
  (refine ss_end hXR [0] rfl rfl trivial rfl rfl rfl rfl ?hv ?hh ?hk ?ho; (case hv => exact clF); (case hh => exact clF); (case hk => exact clF); (case ho => exact clF))
theorem fCommit4 : Gives Tryz.prog 19 [.ptr 0 0] [.obj (fnC T R 0 ⟨key, 4, seq, i, fd, pl, ep, lg, er, tm⟩)] (Is (.int .i64 0) [.obj (fnC T R 0 ⟨key, 4, seq, i, fd, pl, ep, lg, er, tm⟩)]) := by
  refine gives_x hXR (fn := Tryz.f19) rfl rfl rfl rfl fun ρ w => ?_
  dsimp only [fnC, fnx]
  refine sx hXR [] 4000 rfl (by (simp [-List.getD_eq_getElem?_getD, -List.length_eq_zero_iff, conjP])) ?_
  (refine ss_end hXR [0] rfl rfl trivial rfl rfl rfl rfl ?hv ?hh ?hk ?ho; (case hv => exact clF); (case hh => exact clF); (case hk => exact clF); (case ho => exact clF))
theorem lDone0n : Gives Tryz.prog 21 [.ptr 0 0] [.obj (lsC T R 0 1 ⟨0, seq, i, fd, none, er, tm⟩)] (Is (.bool (decide ((0 : Nat) = 0))) [.obj (lsC T R 0 1 ⟨0, seq, i, fd, none, er, tm⟩)]) := by
  refine gives_x hXR (fn := Tryz.f21) rfl rfl rfl rfl fun ρ w => ?_
  dsimp only [lsC, lnx, slV]
  refine sx hXR [] 4000 rfl (by (simp [-List.getD_eq_getElem?_getD, -List.length_eq_zero_iff, conjP])) ?_
  (refine ss_end hXR [0] rfl rfl trivial rfl rfl rfl rfl ?hv ?hh ?hk ?ho; (case hv => exact clF); (case hh => exact clF); (case hk => exact clF); (case ho => exact clF))
theorem lCommit0n : Gives Tryz.prog 22 [.ptr 0 0] [.obj (lsC T R 0 1 ⟨0, seq, i, fd, none, er, tm⟩)] (Is (.int .i64 tm) [.obj (lsC T R 0 1 ⟨0, seq, i, fd, none, er, tm⟩)]) := by
  refine gives_x hXR (fn := Tryz.f22) rfl rfl rfl rfl fun ρ w => ?_
  dsimp only [lsC, lnx, slV]
  refine sx hXR [] 4000 rfl (by (simp [-List.getD_eq_getElem?_getD, -List.length_eq_zero_iff, conjP])) ?_
  (refine ss_end hXR [0] rfl rfl trivial rfl rfl rfl rfl ?hv ?hh ?hk ?ho; (case hv => exact clF); (case hh => exact clF); (case hk => exact clF); (case ho => exact clF))
theorem lDone0s {l : List Int} : Gives Tryz.prog 21 [.ptr 0 0] [.obj (lsC T R 0 1 ⟨0, seq, i, fd, (some l), er, tm⟩), bfE l] (Is (.bool (decide ((0 : Nat) = 0))) [.obj (lsC T R 0 1 ⟨0, seq, i, fd, (some l), er, tm⟩), bfE l]) := by
  refine gives_x hXR (fn := Tryz.f21) rfl rfl rfl rfl fun ρ w => ?_
  dsimp only [lsC, lnx, slV]
  refine sx hXR [] 4000 rfl (by (simp [-List.getD_eq_getElem?_getD, -List.length_eq_zero_iff, conjP])) ?_
  (refine ss_end hXR [0, 1] rfl rfl trivial rfl rfl rfl rfl ?hv ?hh ?hk ?ho; (case hv => exact clF); (case hh => exact clF); (case hk => exact clF); (case ho => exact clF))
theorem lCommit0s {l : List Int} : Gives Tryz.prog 22 [.ptr 0 0] [.obj (lsC T R 0 1 ⟨0, seq, i, fd, (some l), er, tm⟩), bfE l] (Is (.int .i64 tm) [.obj (lsC T R 0 1 ⟨0, seq, i, fd, (some l), er, tm⟩), bfE l]) := by
  refine gives_x hXR (fn := Tryz.f22) rfl rfl rfl rfl fun ρ w => ?_
  dsimp only [lsC, lnx, slV]
  refine sx hXR [] 4000 rfl (by (simp [-List.getD_eq_getElem?_getD, -List.length_eq_zero_iff, conjP])) ?_
  (refine ss_end hXR [0, 1] rfl rfl trivial rfl rfl rfl rfl ?hv ?hh ?hk ?ho; (case hv => exact clF); (case hh => exact clF); (case hk => exact clF); (case ho => exact clF))
theorem lDone1n : Gives Tryz.prog 21 [.ptr 0 0] [.obj (lsC T R 0 1 ⟨1, seq, i, fd, none, er, tm⟩)] (Is (.bool (decide ((1 : Nat) = 0))) [.obj (lsC T R 0 1 ⟨1, seq, i, fd, none, er, tm⟩)]) := by
  refine gives_x hXR (fn := Tryz.f21) rfl rfl rfl rfl fun ρ w => ?_
  dsimp only [lsC, lnx, slV]
  refine sx hXR [] 4000 rfl (by (simp [-List.getD_eq_getElem?_getD, -List.length_eq_zero_iff, conjP])) ?_
  (refine ss_end hXR [0] rfl rfl trivial rfl rfl rfl rfl ?hv ?hh ?hk ?ho; (case hv => exact clF); (case hh => exact clF); (case hk => exact clF); (case ho => exact clF))
theorem lCommit1n : Gives Tryz.prog 22 [.ptr 0 0] [.obj (lsC T R 0 1 ⟨1, seq, i, fd, none, er, tm⟩)] (Is (.int .i64 0) [.obj (lsC T R 0 1 ⟨1, seq, i, fd, none, er, tm⟩)]) := by
  refine gives_x hXR (fn := Tryz.f22) rfl rfl rfl rfl fun ρ w => ?_
  dsimp only [lsC, lnx, slV]
  refine sx hXR [] 4000 rfl (by (simp [-List.getD_eq_getElem?_getD, -List.length_eq_zero_iff, conjP])) ?_
  (refine ss_end hXR [0] rfl rfl trivial rfl rfl rfl rfl ?hv ?hh ?hk ?ho; (case hv => exact clF); (case hh => exact clF); (case hk => exact clF); (case ho => exact clF))
theorem lDone1s {l : List Int} : Gives Tryz.prog 21 [.ptr 0 0] [.obj (lsC T R 0 1 ⟨1, seq, i, fd, (some l), er, tm⟩), bfE l] (Is (.bool (decide ((1 : Nat) = 0))) [.obj (lsC T R 0 1 ⟨1, seq, i, fd, (some l), er, tm⟩), bfE l]) := by
  refine gives_x hXR (fn := Tryz.f21) rfl rfl rfl rfl fun ρ w => ?_
  dsimp only [lsC, lnx, slV]
  refine sx hXR [] 4000 rfl (by (simp [-List.getD_eq_getElem?_getD, -List.length_eq_zero_iff, conjP])) ?_
  (refine ss_end hXR [0, 1] rfl rfl trivial rfl rfl rfl rfl ?hv ?hh ?hk ?ho; (case hv => exact clF); (case hh => exact clF); (case hk => exact clF); (case ho => exact clF))
theorem lCommit1s {l : List Int} : Gives Tryz.prog 22 [.ptr 0 0] [.obj (lsC T R 0 1 ⟨1, seq, i, fd, (some l), er, tm⟩), bfE l] (Is (.int .i64 0) [.obj (lsC T R 0 1 ⟨1, seq, i, fd, (some l), er, tm⟩), bfE l]) := by
  refine gives_x hXR (fn := Tryz.f22) rfl rfl rfl rfl fun ρ w => ?_
  dsimp only [lsC, lnx, slV]
  refine sx hXR [] 4000 rfl (by (simp [-List.getD_eq_getElem?_getD, -List.length_eq_zero_iff, conjP])) ?_
  (refine ss_end hXR [0, 1] rfl rfl trivial rfl rfl rfl rfl ?hv ?hh ?hk ?ho; (case hv => exact clF); (case hh => exact clF); (case hk => exact clF); (case ho => exact clF))
theorem lDone2n : Gives Tryz.prog 21 [.ptr 0 0] [.obj (lsC T R 0 1 ⟨2, seq, i, fd, none, er, tm⟩)] (Is (.bool (decide ((2 : Nat) = 0))) [.obj (lsC T R 0 1 ⟨2, seq, i, fd, none, er, tm⟩)]) := by
  refine gives_x hXR (fn := Tryz.f21) rfl rfl rfl rfl fun ρ w => ?_
  dsimp only [lsC, lnx, slV]
  refine sx hXR [] 4000 rfl (by (simp [-List.getD_eq_getElem?_getD, -List.length_eq_zero_iff, conjP])) ?_
  (refine ss_end hXR [0] rfl rfl trivial rfl rfl rfl rfl ?hv ?hh ?hk ?ho; (case hv => exact clF); (case hh => exact clF); (case hk => exact clF); (case ho => exact clF))
theorem lCommit2n : Gives Tryz.prog 22 [.ptr 0 0] [.obj (lsC T R 0 1 ⟨2, seq, i, fd, none, er, tm⟩)] (Is (.int .i64 0) [.obj (lsC T R 0 1 ⟨2, seq, i, fd, none, er, tm⟩)]) := by
  refine gives_x hXR (fn := Tryz.f22) rfl rfl rfl rfl fun ρ w => ?_
  dsimp only [lsC, lnx, slV]
  refine sx hXR [] 4000 rfl (by (simp [-List.getD_eq_getElem?_getD, -List.length_eq_zero_iff, conjP])) ?_
  (refine ss_end hXR [0] rfl rfl trivial rfl rfl rfl rfl ?hv ?hh ?hk ?ho; (case hv => exact clF); (case hh => exact clF); (case hk => exact clF); (case ho => exact clF))
theorem lDone2s {l : List Int} : Gives Tryz.prog 21 [.ptr 0 0] [.obj (lsC T R 0 1 ⟨2, seq, i, fd, (some l), er, tm⟩), bfE l] (Is (.bool (decide ((2 : Nat) = 0))) [.obj (lsC T R 0 1 ⟨2, seq, i, fd, (some l), er, tm⟩), bfE l]) := by
  refine gives_x hXR (fn := Tryz.f21) rfl rfl rfl rfl fun ρ w => ?_
  dsimp only [lsC, lnx, slV]
  refine sx hXR [] 4000 rfl (by (simp [-List.getD_eq_getElem?_getD, -List.length_eq_zero_iff, conjP])) ?_
  (refine ss_end hXR [0, 1] rfl rfl trivial rfl rfl rfl rfl ?hv ?hh ?hk ?ho; (case hv => exact clF); (case hh => exact clF); (case hk => exact clF); (case ho => exact clF))
theorem lCommit2s {l : List Int} : Gives Tryz.prog 22 [.ptr 0 0] [.obj (lsC T R 0 1 ⟨2, seq, i, fd, (some l), er, tm⟩), bfE l] (Is (.int .i64 0) [.obj (lsC T R 0 1 ⟨2, seq, i, fd, (some l), er, tm⟩), bfE l]) := by
  refine gives_x hXR (fn := Tryz.f22) rfl rfl rfl rfl fun ρ w => ?_
  dsimp only [lsC, lnx, slV]
  refine sx hXR [] 4000 rfl (by (simp [-List.getD_eq_getElem?_getD, -List.length_eq_zero_iff, conjP])) ?_
  (refine ss_end hXR [0, 1] rfl rfl trivial rfl rfl rfl rfl ?hv ?hh ?hk ?ho; (case hv => exact clF); (case hh => exact clF); (case hk => exact clF); (case ho => exact clF))
theorem lDone4n : Gives Tryz.prog 21 [.ptr 0 0] [.obj (lsC T R 0 1 ⟨4, seq, i, fd, none, er, tm⟩)] (Is (.bool (decide ((4 : Nat) = 0))) [.obj (lsC T R 0 1 ⟨4, seq, i, fd, none, er, tm⟩)]) := by
  refine gives_x hXR (fn := Tryz.f21) rfl rfl rfl rfl fun ρ w => ?_
  dsimp only [lsC, lnx, slV]
  refine sx hXR [] 4000 rfl (by (simp [-List.getD_eq_getElem?_getD, -List.length_eq_zero_iff, conjP])) ?_
  (refine ss_end hXR [0] rfl rfl trivial rfl rfl rfl rfl ?hv ?hh ?hk ?ho; (case hv => exact clF); (case hh => exact clF); (case hk => exact clF); (case ho => exact clF))
theorem lCommit4n : Gives Tryz.prog 22 [.ptr 0 0] [.obj (lsC T R 0 1 ⟨4, seq, i, fd, none, er, tm⟩)] (Is (.int .i64 0) [.obj (lsC T R 0 1 ⟨4, seq, i, fd, none, er, tm⟩)]) := by
  refine gives_x hXR (fn := Tryz.f22) rfl rfl rfl rfl fun ρ w => ?_
  dsimp only [lsC, lnx, slV]
  refine sx hXR [] 4000 rfl (by (simp [-List.getD_eq_getElem?_getD, -List.length_eq_zero_iff, conjP])) ?_
  (refine ss_end hXR [0] rfl rfl trivial rfl rfl rfl rfl ?hv ?hh ?hk ?ho; (case hv => exact clF); (case hh => exact clF); (case hk => exact clF); (case ho => exact clF))
theorem lDone4s {l : List Int} : Gives Tryz.prog 21 [.ptr 0 0] [.obj (lsC T R 0 1 ⟨4, seq, i, fd, (some l), er, tm⟩), bfE l] (Is (.bool (decide ((4 : Nat) = 0))) [.obj (lsC T R 0 1 ⟨4, seq, i, fd, (some l), er, tm⟩), bfE l]) := by
  refine gives_x hXR (fn := Tryz.f21) rfl rfl rfl rfl fun ρ w => ?_
  dsimp only [lsC, lnx, slV]
  refine sx hXR [] 4000 rfl (by (simp [-List.getD_eq_getElem?_getD, -List.length_eq_zero_iff, conjP])) ?_
  (refine ss_end hXR [0, 1] rfl rfl trivial rfl rfl rfl rfl ?hv ?hh ?hk ?ho; (case hv => exact clF); (case hh => exact clF); (case hk => exact clF); (case ho => exact clF))
theorem lCommit4s {l : List Int} : Gives Tryz.prog 22 [.ptr 0 0] [.obj (lsC T R 0 1 ⟨4, seq, i, fd, (some l), er, tm⟩), bfE l] (Is (.int .i64 0) [.obj (lsC T R 0 1 ⟨4, seq, i, fd, (some l), er, tm⟩), bfE l]) := by
  refine gives_x hXR (fn := Tryz.f22) rfl rfl rfl rfl fun ρ w => ?_
  dsimp only [lsC, lnx, slV]
  refine sx hXR [] 4000 rfl (by (simp [-List.getD_eq_getElem?_getD, -List.length_eq_zero_iff, conjP])) ?_
  (refine ss_end hXR [0, 1] rfl rfl trivial rfl rfl rfl rfl ?hv ?hh ?hk ?ho; (case hv => exact clF); (case hh => exact clF); (case hk => exact clF); (case ho => exact clF))
end
def fDoneS (T : Nat) (R : Int) (s : FS) : Hx.Spec := fun args H => match args with
  | [.ptr h 0] => match getH H h with
    | some o => some ([o = fnC (T : Int) R h s, s.ph ≤ 4], .bool (decide (s.ph = 0)), H.set h (.obj (fnC (T : Int) R h s)))
    | none => none
  | _ => none
theorem fDoneS_ok {T : Nat} {R : Int} {s : FS} {args : List SV} {H : List HE} {ob : List Prop} {V : SV} {L : List HE} (hs : fDoneS T R s args H = some (ob, V, L)) (ho : AllP ob) : Gives Tryz.prog 17 args H (Is V L) := by
  unfold fDoneS at hs
  split at hs
  case h_2 => simp at hs
  rename_i _ h
  split at hs
  case h_2 => simp at hs
  rename_i _ o hg
  simp only [Option.some.injEq, Prod.mk.injEq] at hs
  obtain ⟨rfl, rfl, rfl⟩ := hs
  simp only [AllP, List.mem_cons, List.not_mem_nil, or_false, forall_eq_or_imp, forall_eq] at ho
  obtain ⟨rfl, o2⟩ := ho
  refine fr_f hg (fun σ => rfl) ?_
  obtain ⟨key, ph, seq, i, fd, pl, ep, lg, er, tm⟩ := s
  dsimp only at o2 ⊢
  have hp : ph = 0 ∨ ph = 1 ∨ ph = 2 ∨ ph = 3 ∨ ph = 4 := by omega
  rcases hp with rfl | rfl | rfl | rfl | rfl
  · exact fDone0
  · exact fDone1
  · exact fDone2
  · exact fDone3
  · exact fDone4
def lDoneS (g : Nat) (T : Nat) (R : Int) (s : LS) : Hx.Spec := fun args H => match args with
  | [.ptr h 0] => match s.told with
    | none => match getH H h with
      | some o => some ([o = lsC (T : Int) R h g s, s.ph = 0 ∨ s.ph = 1 ∨ s.ph = 2 ∨ s.ph = 4], .bool (decide (s.ph = 0)), H.set h (.obj (lsC (T : Int) R h g s)))
      | none => none
    | some l => match getH H h, getH H g, nodupN [h, g] with
      | some o, some o2, true => some ([o = lsC (T : Int) R h g s, s.ph = 0 ∨ s.ph = 1 ∨ s.ph = 2 ∨ s.ph = 4, o2 = .buf .i64 l 1 3], .bool (decide (s.ph = 0)), (H.set h (.obj (lsC (T : Int) R h g s))).set g (bfE l))
      | _, _, _ => none
  | _ => none
theorem lDoneS_ok {g T : Nat} {R : Int} {s : LS} {args : List SV} {H : List HE} {ob : List Prop} {V : SV} {L : List HE} (hs : lDoneS g T R s args H = some (ob, V, L)) (ho : AllP ob) : Gives Tryz.prog 21 args H (Is V L) := by
  unfold lDoneS at hs
  split at hs
  case h_2 => simp at hs
  rename_i _ h
  split at hs
  · rename_i ht
    split at hs
    case h_2 => simp at hs
    rename_i _ o hg
    simp only [Option.some.injEq, Prod.mk.injEq] at hs
    obtain ⟨rfl, rfl, rfl⟩ := hs
    simp only [AllP, List.mem_cons, List.not_mem_nil, or_false, forall_eq_or_imp, forall_eq] at ho
    obtain ⟨rfl, o2⟩ := ho
    refine fr_l0 ht hg (fun σ => rfl) ?_
    obtain ⟨ph, seq, i, fd, told, er, tm⟩ := s
    dsimp only at o2 ht ⊢
    subst ht
    rcases o2 with rfl | rfl | rfl | rfl
    · exact lDone0n
    · exact lDone1n
    · exact lDone2n
    · exact lDone4n
  · rename_i l ht
    split at hs
    case h_2 => simp at hs
    rename_i _ _ _ o o2' hg hg2 hnd
    simp only [Option.some.injEq, Prod.mk.injEq] at hs
    obtain ⟨rfl, rfl, rfl⟩ := hs
    simp only [AllP, List.mem_cons, List.not_mem_nil, or_false, forall_eq_or_imp, forall_eq] at ho
    obtain ⟨rfl, o2, rfl⟩ := ho
    refine fr_l1 hnd hg hg2 (fun σ => rfl) ?_
    obtain ⟨ph, seq, i, fd, told, er, tm⟩ := s
    dsimp only at o2 ht ⊢
    subst ht
    rcases o2 with rfl | rfl | rfl | rfl
    · exact lDone0s
    · exact lDone1s
    · exact lDone2s
    · exact lDone4s
def fCommitS (T : Nat) (R : Int) (s : FS) : Hx.Spec := fun args H => match args with
  | [.ptr h 0] => match getH H h with
    | some o => some ([o = fnC (T : Int) R h s, s.ph ≤ 4], .int .i64 (if s.ph = 0 then s.tm else 0), H.set h (.obj (fnC (T : Int) R h s)))
    | none => none
  | _ => none
theorem fCommitS_ok {T : Nat} {R : Int} {s : FS} {args : List SV} {H : List HE} {ob : List Prop} {V : SV} {L : List HE} (hs : fCommitS T R s args H = some (ob, V, L)) (ho : AllP ob) : Gives Tryz.prog 19 args H (Is V L) := by
  unfold fCommitS at hs
  split at hs
  case h_2 => simp at hs
  rename_i _ h
  split at hs
  case h_2 => simp at hs
  rename_i _ o hg
  simp only [Option.some.injEq, Prod.mk.injEq] at hs
  obtain ⟨rfl, rfl, rfl⟩ := hs
  simp only [AllP, List.mem_cons, List.not_mem_nil, or_false, forall_eq_or_imp, forall_eq] at ho
  obtain ⟨rfl, o2⟩ := ho
  refine fr_f hg (fun σ => rfl) ?_
  obtain ⟨key, ph, seq, i, fd, pl, ep, lg, er, tm⟩ := s
  dsimp only at o2 ⊢
  have hp : ph = 0 ∨ ph = 1 ∨ ph = 2 ∨ ph = 3 ∨ ph = 4 := by omega
  rcases hp with rfl | rfl | rfl | rfl | rfl
  · exact fCommit0
  · exact fCommit1
  · exact fCommit2
  · exact fCommit3
  · exact fCommit4
def lCommitS (g : Nat) (T : Nat) (R : Int) (s : LS) : Hx.Spec := fun args H => match args with
  | [.ptr h 0] => match s.told with
    | none => match getH H h with
      | some o => some ([o = lsC (T : Int) R h g s, s.ph = 0 ∨ s.ph = 1 ∨ s.ph = 2 ∨ s.ph = 4], .int .i64 (if s.ph = 0 then s.tm else 0), H.set h (.obj (lsC (T : Int) R h g s)))
      | none => none
    | some l => match getH H h, getH H g, nodupN [h, g] with
      | some o, some o2, true => some ([o = lsC (T : Int) R h g s, s.ph = 0 ∨ s.ph = 1 ∨ s.ph = 2 ∨ s.ph = 4, o2 = .buf .i64 l 1 3], .int .i64 (if s.ph = 0 then s.tm else 0), (H.set h (.obj (lsC (T : Int) R h g s))).set g (bfE l))
      | _, _, _ => none
  | _ => none
theorem lCommitS_ok {g T : Nat} {R : Int} {s : LS} {args : List SV} {H : List HE} {ob : List Prop} {V : SV} {L : List HE} (hs : lCommitS g T R s args H = some (ob, V, L)) (ho : AllP ob) : Gives Tryz.prog 22 args H (Is V L) := by
  unfold lCommitS at hs
  split at hs
  case h_2 => simp at hs
  rename_i _ h
  split at hs
  · rename_i ht
    split at hs
    case h_2 => simp at hs
    rename_i _ o hg
    simp only [Option.some.injEq, Prod.mk.injEq] at hs
    obtain ⟨rfl, rfl, rfl⟩ := hs
    simp only [AllP, List.mem_cons, List.not_mem_nil, or_false, forall_eq_or_imp, forall_eq] at ho
    obtain ⟨rfl, o2⟩ := ho
    refine fr_l0 ht hg (fun σ => rfl) ?_
    obtain ⟨ph, seq, i, fd, told, er, tm⟩ := s
    dsimp only at o2 ht ⊢
    subst ht
    rcases o2 with rfl | rfl | rfl | rfl
    · exact lCommit0n
    · exact lCommit1n
    · exact lCommit2n
    · exact lCommit4n
  · rename_i l ht
    split at hs
    case h_2 => simp at hs
    rename_i _ _ _ o o2' hg hg2 hnd
    simp only [Option.some.injEq, Prod.mk.injEq] at hs
    obtain ⟨rfl, rfl, rfl⟩ := hs
    simp only [AllP, List.mem_cons, List.not_mem_nil, or_false, forall_eq_or_imp, forall_eq] at ho
    obtain ⟨rfl, o2, rfl⟩ := ho
    refine fr_l1 hnd hg hg2 (fun σ => rfl) ?_
    obtain ⟨ph, seq, i, fd, told, er, tm⟩ := s
    dsimp only at o2 ht ⊢
    subst ht
    rcases o2 with rfl | rfl | rfl | rfl
    · exact lCommit0s
    · exact lCommit1s
    · exact lCommit2s
    · exact lCommit4s
end Go.Proofs.YtkkddjchkkaagaaGreatDoor

/- FindPlays: the world of a turn, and what is so. -/
namespace Go.Proofs.YtkkddjchkkaagaaGreatDoor
open Go Go.Hx
set_option maxRecDepth 8000
structure PP where
  (T : Nat) (R : Int) (sf : Nat) (f : FS) (fr : FR) (dp dp' de' : Int) (mv : Bool) (l : LS) (lr : LR) (dL dL' : Option (List Int)) (el' : Int) (k lg : Nat)
/-- Topics and steps are compared part by part. -/
def etP : Nat → Option (List (Option IntKind))
  | 25 => some [some .i64, some .i64, none]
  | 61 => some [some .i64, some .i64, some .u64, none]
  | _ => none
theorem etP_ok : ∀ t ks, etP t = some ks → EqOk Tryz.prog t ks := by
  intro t ks h
  unfold etP at h
  split at h
  · simp at h; subst h
    exact eqOk_of (by kernel_rfl) (by kernel_rfl)
  · simp at h; subst h
    exact eqOk_of (by kernel_rfl) (by kernel_rfl)
  · simp at h
def ctP0 (p : PP) : Nat → Option Hx.Spec
  | 16 => some (fStS p.T p.R p.sf p.f p.fr)
  | 20 => some (lStS p.mv 10 p.T p.R p.l p.lr)
  | 13 => some (ftldS p.k p.T p.R p.fr.s)
  | 14 => some (ltldS p.k p.lg p.T p.R p.lr.s)
  | 48 => some (dfStS p.T p.R p.sf p.f p.fr p.dp 0 p.dp' p.de')
  | 46 => some (dlStS p.mv 12 p.T p.R p.l p.lr p.dL 0 p.dL' p.el')
  | 47 => some (sqS)
  | 18 => some (topFS)
  | 17 => some (fDoneS p.T p.R p.fr.s)
  | 19 => some (fCommitS p.T p.R p.fr.s)
  | 21 => some (lDoneS p.lg p.T p.R p.lr.s)
  | 22 => some (lCommitS p.lg p.T p.R p.lr.s)
  | 143 => some (pureS rightS)
  | 112 => some (pureS rightS)
  | 84 => some (pureS startS)
  | 110 => some (pureS rstartS)
  | 29 => some (pureS (placeS entryF))
  | 42 => some (pureS (placeS entryF))
  | 44 => some (pureS (placeS ctlF))
  | 45 => some (pureS (placeS ctlF))
  | 30 => some (pureS entS)
  | 43 => some (pureS rcpkS)
  | 32 => some (arLoadS)
  | 28 => some (arStoreS)
  | 41 => some (raStoreS)
  | _ => none
theorem ctP0_ok (p : PP) : ∀ f s args H ob V L, ctP0 p f = some s → s args H = some (ob, V, L) → AllP ob → Gives Tryz.prog f args H (Is V L) := by
  intro f s args H ob V L h hs ho
  unfold ctP0 at h
  split at h
  · simp at h; subst h; exact fStS_ok hs ho
  · simp at h; subst h; exact lStS_ok hs ho
  · simp at h; subst h; exact ftldS_ok hs ho
  · simp at h; subst h; exact ltldS_ok hs ho
  · simp at h; subst h; exact dfStS_ok hs ho
  · simp at h; subst h; exact dlStS_ok hs ho
  · simp at h; subst h; exact sqS_ok hs ho
  · simp at h; subst h; exact topFS_ok hs ho
  · simp at h; subst h; exact fDoneS_ok hs ho
  · simp at h; subst h; exact fCommitS_ok hs ho
  · simp at h; subst h; exact lDoneS_ok hs ho
  · simp at h; subst h; exact lCommitS_ok hs ho
  · simp at h; subst h; exact pureS_ok ⟨_, hTE⟩ (rightS_ok right143) hs ho
  · simp at h; subst h; exact pureS_ok ⟨_, hTE⟩ (rightS_ok right112) hs ho
  · simp at h; subst h; exact pureS_ok ⟨_, hTE⟩ (startS_ok) hs ho
  · simp at h; subst h; exact pureS_ok ⟨_, hTE⟩ (rstartS_ok) hs ho
  · simp at h; subst h; exact pureS_ok ⟨_, hTE⟩ (placeS_ok (v := entryF) entry_fn) hs ho
  · simp at h; subst h; exact pureS_ok ⟨_, hTE⟩ (placeS_ok (v := entryF) rentry_fn) hs ho
  · simp at h; subst h; exact pureS_ok ⟨_, hTE⟩ (placeS_ok (v := ctlF) ctl_fn) hs ho
  · simp at h; subst h; exact pureS_ok ⟨_, hTE⟩ (placeS_ok (v := ctlF) rctl_fn) hs ho
  · simp at h; subst h; exact pureS_ok ⟨_, hTE⟩ (entS_ok) hs ho
  · simp at h; subst h; exact pureS_ok ⟨_, hTE⟩ (rcpkS_ok) hs ho
  · simp at h; subst h; exact arLoadS_ok hs ho
  · simp at h; subst h; exact arStoreS_ok hs ho
  · simp at h; subst h; exact raStoreS_ok hs ho
  · simp at h
noncomputable def XPl (p : PP) : Tabs := tabs tr ft xt etP (ctP0 p) 0
theorem hXPl (p : PP) : TOk Tryz.prog (XPl p) := ⟨hTE, hFT, ctP0_ok p, hXT, fun t ks h => etP_ok t ks h, mixed⟩
structure Pq where
  (W : List Int) (st kd wd vl : Int) (ch : Bool) (f : FS) (dp : Int) (l : LS) (dL : Option (List Int))
abbrev cfPE (T R : Int) : HE := .obj (.cells [.int .i64 T, .int .i64 4, .int .i64 1, .int .i64 2, .int .i64 4, .int .i64 1, .int .i64 6, .int .i64 0, .int .i64 R] 43)
def ppH (e : HE) (T R : Int) (z : Pq) (x : List HE) : List HE :=
  e :: pinE RTV :: cfPE T R :: AOx 4 z.W z.st z.kd z.wd z.vl z.ch :: WO z.W :: ROx 6 z.W z.st z.kd z.wd z.vl z.ch :: WO z.W :: .obj (fnC T R 7 z.f) :: .obj (dfC T R z.f z.dp 0) :: .obj (lsC T R 9 10 z.l) :: slE z.l.told .i64 3 :: .obj (dlC T R 12 z.l z.dL 0) :: slE z.dL .i64 3 :: x
structure XP where
  (i : Nat) (z : Pq)
def ppT (N cap : Nat) (key : Int) (x : XP) : List (Nat × SV) := [(1, .slice 0 0 N cap), (7, .tt), (8, .ptr 2 0), (9, .ptr 3 0), (11, .ptr 5 0), (12, .int .i64 key), (13, .ptr 7 0), (14, .ptr 9 0), (15, .ptr 8 0), (16, .ptr 11 0), (17, .int .i64 (x.i : Int))]
/-- With an action, and a place. -/
def ppU (N cap : Nat) (key : Int) (a : Nat) (x : XP) : List (Nat × SV) := [(1, .slice 0 0 N cap), (7, .tt), (8, .ptr 2 0), (9, .ptr 3 0), (11, .ptr 5 0), (12, .int .i64 key), (13, .ptr 7 0), (14, .ptr 9 0), (15, .ptr 8 0), (16, .ptr 11 0), (17, .int .i64 (x.i : Int)), (18, .ptr 13 0), (19, .int .i64 (a : Int))]
def pK (N : Nat) (o : Nat → Int × Int × Int × Bool) (T : Nat) (R : Int) (x : XP) : List HE := ppH (.obj (.rows N 4 (acF o))) T R x.z []
def acPO (a : Int × Int × Int × Bool) : HE := .obj (.cells [.int .i64 a.1, .int .i64 a.2.1, .int .i64 a.2.2.1, .bool a.2.2.2] 54)
def pKa (N : Nat) (o : Nat → Int × Int × Int × Bool) (T : Nat) (R : Int) (x : XP) : List HE := ppH (.obj (.rows N 4 (acF o))) T R x.z [acPO (o x.i)]
structure PInv (T : Nat) (R : Int) (N : Nat) (key : Int) (x : XP) : Prop where
  b : FB T R x.z.W x.z.st
  s2 : x.z.st ≤ 1000 + (x.i : Int)
  fc : FC T R x.z.f
  lc : LC T R x.z.l
  fk : x.z.f.key = key
  df : DFI x.z.f x.z.dp 0
  dl : DLI T x.z.l x.z.dL 0
  tn : ∀ l, x.z.l.told = some l → 0 < l.length
  hn : x.i ≤ N
  hi : x.i ≤ 120
def downLq : List KI → List KI
  | [] => []
  | .lp I :: k => .lp I :: k
  | _ :: r => downLq r
section
abbrev PJ (p : PP) (T : Nat) (R : Int) (N cap : Nat) (key : Int) (o : Nat → Int × Int × Int × Bool) (x : XP) (ρ : Nat → Nat × Nat) (w : World) (I : Act → World → Prop) : Prop :=
  ∀ x', PInv T R N (cRem 1 12 key) x' → x'.i = x.i + 1 → ∀ cs TT H, Sub (FEnv Tryz.prog (XPl p).TE (hXPl p).te Tryz.f6 Tryz.f6.ntmps [.obj (.rows N 4 (acF o)), pinE RTV] (Is .tt [.obj (.rows N 4 (acF o)), pinE RTV]) ρ w) TT H (ppT N cap (cRem 1 12 key) x') (pK N o T R x') →
    SS (hXPl p) (At ρ w) (Is .tt [.obj (.rows N 4 (acF o)), pinE RTV]) ⟨cs, [], Tryz.f6, Tryz.f6.ntmps, [.obj (.rows N 4 (acF o)), pinE RTV], downLq (contF Tryz.f6 15 [I]), TT, H⟩
abbrev PG (p : PP) (T : Nat) (R : Int) (N cap : Nat) (key : Int) (o : Nat → Int × Int × Int × Bool) (x : XP) (ρ : Nat → Nat × Nat) (w : World) (I : Act → World → Prop) : Prop :=
  SS (hXPl p) (At ρ w) (Is .tt [.obj (.rows N 4 (acF o)), pinE RTV]) ⟨[], [], Tryz.f6, Tryz.f6.ntmps, [.obj (.rows N 4 (acF o)), pinE RTV], contF Tryz.f6 15 [I], ppT N cap (cRem 1 12 key) x, pK N o T R x⟩
/-- reg: where; the place a is known. -/
abbrev PU (reg : Nat) (a : Nat) (p : PP) (T : Nat) (R : Int) (N cap : Nat) (key : Int) (o : Nat → Int × Int × Int × Bool) (x : XP) (ρ : Nat → Nat × Nat) (w : World) (I : Act → World → Prop) : Prop :=
  SS (hXPl p) (At ρ w) (Is .tt [.obj (.rows N 4 (acF o)), pinE RTV]) ⟨[], [], Tryz.f6, Tryz.f6.ntmps, [.obj (.rows N 4 (acF o)), pinE RTV], contF Tryz.f6 reg [I], ppU N cap (cRem 1 12 key) a x, pKa N o T R x⟩
end
theorem subE_dfC {H : List HE} {σ : Nat → Nat} {i : Nat} {T R : Int} {s : FS} {dp de : Int} (hg : H[σ i]? = some (.obj (dfC T R s dp de))) : subE σ H i (.obj (dfC T R s dp de)) := by
  simp only [subE, getH_some.2 hg, simG, ren_dfC]
  exact simO_refl _
theorem subE_dlC {H : List HE} {σ : Nat → Nat} {i : Nat} {T R : Int} {s : LS} {dL : Option (List Int)} {de : Int} {b b' : Nat} (hg : H[σ i]? = some (.obj (dlC T R b' s dL de))) (hs : σ b = b') : subE σ H i (.obj (dlC T R b s dL de)) := by
  subst hs
  simp only [subE, getH_some.2 hg, simG, ren_dlC]
  exact simO_refl _
theorem okE_dfC {A : Nat → Bool} {T R : Int} {s : FS} {dp de : Int} : okE A (.obj (dfC T R s dp de)) := by
  show okPs A _
  repeat' (first | exact trivial | refine And.intro ?_ ?_)
theorem okE_dlC {A : Nat → Bool} {T R : Int} {s : LS} {dL : Option (List Int)} {de : Int} {b : Nat} (h2 : A b = (slE dL .i64 3).there) : okE A (.obj (dlC T R b s dL de)) := by
  show okPs A _
  repeat' (first | exact okP_slF h2 | exact trivial | refine And.intro ?_ ?_)
theorem clhP {P : Prop} (h : P := by repeat' (first | exact rfl | exact trivial | exact sim_refl _ | exact simO_refl _ | exact sim_slVr rfl | exact subE_same rfl ren_slE | exact subE_fnC rfl rfl | exact subE_dfC rfl | exact subE_lsC rfl ⟨rfl, rfl⟩ | exact subE_lsC0 rfl rfl rfl | exact subE_dlC rfl rfl | exact List.length_set.symm | exact List.length_set | assumption | refine And.intro ?_ ?_)) : P := h
theorem clkP {P : Prop} (h : P := by repeat' (first | exact rfl | exact trivial | exact okE_slE | exact okP_slV rfl | exact okE_fnC (a := 7) rfl | exact okE_dfC | exact okE_lsC (a := 9) (b := 10) rfl rfl | exact okE_dlC (b := 12) rfl | refine And.intro ?_ ?_)) : P := h
def pp0 (T : Nat) (R : Int) : PP := ⟨T, R, 0, f00, ⟨f00, 0, 0⟩, 0, 0, 0, false, l00, ⟨l00, 0, 0⟩, none, none, 0, 0, 10⟩
end Go.Proofs.YtkkddjchkkaagaaGreatDoor

/- FindPlays: a turn: up to what it is; what is laid. -/

namespace Go.Proofs.YtkkddjchkkaagaaGreatDoor
open Go Go.Hx
set_option maxRecDepth 8000
section
variable {T : Nat} {R : Int} {N cap : Nat} {key : Int} {o : Nat → Int × Int × Int × Bool} {x : XP} {ρ : Nat → Nat × Nat} {w : World} {I : Act → World → Prop}
set_option maxHeartbeats 4000000 in
theorem ps1 (h : PInv T R N (cRem 1 12 key) x) (hin : x.i < N) (hi : x.i < 120) {a : Nat} (_ha : a < T) (ea : cMod (T : Int) (o x.i).2.1 = (a : Int))
    (J : ∃ p, PU 19 a p T R N cap key o x ρ w I) : ∃ p, PG p T R N cap key o x ρ w I := by
  have hk := h.fk
  have hs2 := h.s2
  have hb := h.b
  have hdf := h.df
  have hdl := h.dl
  have htn := h.tn
  have hfc := h.fc
  have hlc := h.lc
  obtain ⟨i, ⟨W, st, kd, wd, vl, ch, f, dp, l, dL⟩⟩ := x
  dsimp only at hin hi ea hk hs2 hb hdf hdl htn hfc hlc
  have t1 := hb.t1
  have t8 := hb.t8
  have r1 := hb.r1
  have r4 := hb.r4
  have hl := hb.hl
  have st0 := hb.s0
  have st1 := hb.s1
  have hr := right_FR t1 t8 r1 r4
  have fi1 : (i : Int) < (N : Int) := by omega
  have fi2 : (i : Int) < 120 := by omega
  have ewi : IntKind.i64.wrap ((i : Int) + 1) = ((i + 1 : Nat) : Int) := by rw [wi64 (by omega) (by omega)]; omega
  have ea' : (IntKind.i64.wrap ((o i).2.1.tmod (T : Int) + (T : Int))).tmod (T : Int) = (a : Int) := ea
  have tz : ¬ (T : Int) = 0 := by omega
  refine ⟨pp0 T R, ?_⟩
  have hX := hXPl (pp0 T R)
  obtain ⟨pp, h1⟩ := J
  dsimp only [PG, PU, ppT, ppU, pK, pKa, ppH, acPO] at h1 ⊢
  refine sxb hX [.r 19] [] 4000 rfl (by (simp [-List.getD_eq_getElem?_getD, -List.length_eq_zero_iff, conjP])) ?_
  refine sxb hX [.r 19] [.T] 4000 rfl (by (simp [-List.getD_eq_getElem?_getD, -List.length_eq_zero_iff, conjP, addOP, fi1])) ?_
  refine sxb hX [.r 19] [.T] 4000 rfl (by (simp [-List.getD_eq_getElem?_getD, -List.length_eq_zero_iff, conjP, fi1, fi2, Int.toNat_natCast] <;> (first | omega | ((repeat' (refine And.intro ?_ ?_)) <;> (first | omega | exact decide_eq_false (by omega) | exact decide_eq_true (by omega)))))) ?_
  (try simp only; refine ss_sub hX [0, 1, 2, 3, 4, 5, 6, 7, 8, 9, 10, 11, 12, 13] rfl rfl rfl rfl ?tt ?hh ?ot ?ok (ss_sw hX (sw_ss (hXPl pp) (cs := []) h1)); (case tt => exact clhP); (case hh => exact clhP); (case ot => exact clkP); (case ok => exact clkP))
set_option maxHeartbeats 4000000 in
theorem pk5 (h : PInv T R N (cRem 1 12 key) x) (hin : x.i < N) (hi : x.i < 120) {a : Nat} (ha : a < T) (hm : ibits .and .i64 (o x.i).1 7 = 5)
    (J : ∀ p, PJ p T R N cap key o x ρ w I) : ∃ p, PU 19 a p T R N cap key o x ρ w I := by
  have hk := h.fk
  have hs2 := h.s2
  have hb := h.b
  have hdf := h.df
  have hdl := h.dl
  have htn := h.tn
  have hfc := h.fc
  have hlc := h.lc
  obtain ⟨i, ⟨W, st, kd, wd, vl, ch, f, dp, l, dL⟩⟩ := x
  dsimp only at hin hi hm hk hs2 hb hdf hdl htn hfc hlc
  have t1 := hb.t1
  have t8 := hb.t8
  have r1 := hb.r1
  have r4 := hb.r4
  have hl := hb.hl
  have st0 := hb.s0
  have st1 := hb.s1
  have hr := right_FR t1 t8 r1 r4
  have fi1 : (i : Int) < (N : Int) := by omega
  have fi2 : (i : Int) < 120 := by omega
  have ewi : IntKind.i64.wrap ((i : Int) + 1) = ((i + 1 : Nat) : Int) := by rw [wi64 (by omega) (by omega)]; omega
  have en := fent_at (R := R) ha
  have el := fP_lt' hl ha
  have e0 := (enV_r (k := (o i).2.2.1) (b := (o i).2.2.2)).1
  have e1 := (enV_r (k := (o i).2.2.1) (b := (o i).2.2.2)).2
  refine ⟨pp0 T R, ?_⟩
  have hX := hXPl (pp0 T R)
  have iv : PInv T R N (cRem 1 12 key) ⟨i + 1, ⟨(W.set (fP a) (enV (o i).2.2.1 (o i).2.2.2)), (st + 1), 2, (fP a : Int), (enV (o i).2.2.1 (o i).2.2.2), true, f, dp, l, dL⟩⟩ := ⟨fb_set hb (by omega) enV_r.1 enV_r.2, by dsimp only; omega, hfc, hlc, hk, hdf, hdl, htn, by dsimp only; omega, by dsimp only; omega⟩
  have J := J (pp0 T R) _ iv rfl
  dsimp only [ppT, pK, ppH] at J
  dsimp only [PU, ppU, pKa, ppH, acPO]
  refine sx hX [] 4000 rfl (by (simp [-List.getD_eq_getElem?_getD, -List.length_eq_zero_iff, conjP])) ?_
  refine sx hX [.T] 4000 rfl (by (simp [-List.getD_eq_getElem?_getD, -List.length_eq_zero_iff, conjP, getH, HE.so, hm, hr, st0, en, el] <;> (first | omega | ((repeat' (refine And.intro ?_ ?_)) <;> (first | omega | exact decide_eq_false (by omega) | exact decide_eq_true (by omega)))))) ?_
  refine sx hX [.K, .F] 4000 rfl (by (simp [-List.getD_eq_getElem?_getD, -List.length_eq_zero_iff, conjP, getH, HE.so, en, Int.toNat_natCast])) ?_
  refine sx hX [.F] 4000 rfl (by (simp [-List.getD_eq_getElem?_getD, -List.length_eq_zero_iff, conjP, addOP])) ?_
  (refine J _ _ _ (sub_of [0, 1, 2, 3, 4, 5, 6, 7, 8, 9, 10, 11, 12] rfl rfl rfl rfl ?tt ?hh ?ot ?ok); (case tt => simp only [ewi, en]; exact clhP); (case hh => (try simp only [en, Int.toNat_natCast, List.length_set]); exact clhP); (case ot => exact clkP); (case ok => exact clkP))
set_option maxHeartbeats 4000000 in
theorem pk6 (h : PInv T R N (cRem 1 12 key) x) (hin : x.i < N) (hi : x.i < 120) {a : Nat} (_ha : a < T) (hm : ibits .and .i64 (o x.i).1 7 = 6)
    (J : ∀ p, PJ p T R N cap key o x ρ w I) : ∃ p, PU 19 a p T R N cap key o x ρ w I := by
  have hk := h.fk
  have hs2 := h.s2
  have hb := h.b
  have hdf := h.df
  have hdl := h.dl
  have htn := h.tn
  have hfc := h.fc
  have hlc := h.lc
  obtain ⟨i, ⟨W, st, kd, wd, vl, ch, f, dp, l, dL⟩⟩ := x
  dsimp only at hin hi hm hk hs2 hb hdf hdl htn hfc hlc
  have t1 := hb.t1
  have t8 := hb.t8
  have r1 := hb.r1
  have r4 := hb.r4
  have hl := hb.hl
  have st0 := hb.s0
  have st1 := hb.s1
  have hr := right_FR t1 t8 r1 r4
  have fi1 : (i : Int) < (N : Int) := by omega
  have fi2 : (i : Int) < 120 := by omega
  have ewi : IntKind.i64.wrap ((i : Int) + 1) = ((i + 1 : Nat) : Int) := by rw [wi64 (by omega) (by omega)]; omega
  have l2 : (2 : Int) < (W.length : Int) := by omega
  have sa : 0 ≤ IntKind.u64.wrap (W.getD 2 0 + 1) := by rw [IntKind.wrap_u64]; omega
  have sb : IntKind.u64.wrap (W.getD 2 0 + 1) < 18446744073709551616 := by rw [IntKind.wrap_u64]; omega
  refine ⟨pp0 T R, ?_⟩
  have hX := hXPl (pp0 T R)
  have iv : PInv T R N (cRem 1 12 key) ⟨i + 1, ⟨(W.set 2 (IntKind.u64.wrap (W.getD 2 0 + 1))), (st + 1), 2, 2, (IntKind.u64.wrap (W.getD 2 0 + 1)), true, f, dp, l, dL⟩⟩ := ⟨fb_set hb (by omega) sa sb, by dsimp only; omega, hfc, hlc, hk, hdf, hdl, htn, by dsimp only; omega, by dsimp only; omega⟩
  have J := J (pp0 T R) _ iv rfl
  dsimp only [ppT, pK, ppH] at J
  dsimp only [PU, ppU, pKa, ppH, acPO]
  refine sx hX [] 4000 rfl (by (simp [-List.getD_eq_getElem?_getD, -List.length_eq_zero_iff, conjP])) ?_
  refine sx hX [.F] 4000 rfl (by (simp [-List.getD_eq_getElem?_getD, -List.length_eq_zero_iff, conjP, addOP, hm])) ?_
  refine sx hX [.T] 4000 rfl (by (simp [-List.getD_eq_getElem?_getD, -List.length_eq_zero_iff, conjP, hm, st0, l2, two_nat] <;> (first | omega | ((repeat' (refine And.intro ?_ ?_)) <;> (first | omega | exact decide_eq_false (by omega) | exact decide_eq_true (by omega)))))) ?_
  refine sx hX [.K, .F] 4000 rfl (by (simp [-List.getD_eq_getElem?_getD, -List.length_eq_zero_iff, conjP, getH, HE.so, two_nat])) ?_
  refine sx hX [.F] 4000 rfl (by (simp [-List.getD_eq_getElem?_getD, -List.length_eq_zero_iff, conjP, addOP])) ?_
  (refine J _ _ _ (sub_of [0, 1, 2, 3, 4, 5, 6, 7, 8, 9, 10, 11, 12] rfl rfl rfl rfl ?tt ?hh ?ot ?ok); (case tt => simp only [ewi, two_nat]; exact clhP); (case hh => (try simp only [two_nat, List.length_set]); exact clhP); (case ot => exact clkP); (case ok => exact clkP))
set_option maxHeartbeats 4000000 in
theorem pk7 (h : PInv T R N (cRem 1 12 key) x) (hin : x.i < N) (hi : x.i < 120) {a : Nat} (ha : a < T) (hm : ibits .and .i64 (o x.i).1 7 = 7)
    (J : ∀ p, PJ p T R N cap key o x ρ w I) : ∃ p, PU 19 a p T R N cap key o x ρ w I := by
  have hk := h.fk
  have hs2 := h.s2
  have hb := h.b
  have hdf := h.df
  have hdl := h.dl
  have htn := h.tn
  have hfc := h.fc
  have hlc := h.lc
  obtain ⟨i, ⟨W, st, kd, wd, vl, ch, f, dp, l, dL⟩⟩ := x
  dsimp only at hin hi hm hk hs2 hb hdf hdl htn hfc hlc
  have t1 := hb.t1
  have t8 := hb.t8
  have r1 := hb.r1
  have r4 := hb.r4
  have hl := hb.hl
  have st0 := hb.s0
  have st1 := hb.s1
  have hr := right_FR t1 t8 r1 r4
  have fi1 : (i : Int) < (N : Int) := by omega
  have fi2 : (i : Int) < 120 := by omega
  have ewi : IntKind.i64.wrap ((i : Int) + 1) = ((i + 1 : Nat) : Int) := by rw [wi64 (by omega) (by omega)]; omega
  have en := fctl_at (R := R) ha
  have el := gP_lt' hl ha
  have e7 : 0 ≤ ibits .and .i64 (o i).2.2.1 7 ∧ ibits .and .i64 (o i).2.2.1 7 ≤ 7 := and7 _
  have e8 := e7.1
  have e9 : ibits .and .i64 (o i).2.2.1 7 < 32768 := by omega
  have sa : 0 ≤ (pkV (ibits .and .i64 (o i).2.2.1 7) 0 0 (b2 (o i).2.2.2) 0) := by unfold pkV b2; split <;> omega
  have sb : (pkV (ibits .and .i64 (o i).2.2.1 7) 0 0 (b2 (o i).2.2.2) 0) < 18446744073709551616 := by unfold pkV b2; split <;> omega
  refine ⟨pp0 T R, ?_⟩
  have hX := hXPl (pp0 T R)
  have iv : PInv T R N (cRem 1 12 key) ⟨i + 1, ⟨(W.set (gP T a) (pkV (ibits .and .i64 (o i).2.2.1 7) 0 0 (b2 (o i).2.2.2) 0)), (st + 1), 2, (gP T a : Int), (pkV (ibits .and .i64 (o i).2.2.1 7) 0 0 (b2 (o i).2.2.2) 0), true, f, dp, l, dL⟩⟩ := ⟨fb_set hb (by omega) sa sb, by dsimp only; omega, hfc, hlc, hk, hdf, hdl, htn, by dsimp only; omega, by dsimp only; omega⟩
  have J := J (pp0 T R) _ iv rfl
  dsimp only [ppT, pK, ppH] at J
  dsimp only [PU, ppU, pKa, ppH, acPO]
  refine sx hX [] 4000 rfl (by (simp [-List.getD_eq_getElem?_getD, -List.length_eq_zero_iff, conjP])) ?_
  refine sx hX [.F] 4000 rfl (by (simp [-List.getD_eq_getElem?_getD, -List.length_eq_zero_iff, conjP, addOP, hm])) ?_
  refine sx hX [.F] 4000 rfl (by (simp [-List.getD_eq_getElem?_getD, -List.length_eq_zero_iff, conjP, addOP, hm])) ?_
  refine sx hX [.T] 4000 rfl (by (simp [-List.getD_eq_getElem?_getD, -List.length_eq_zero_iff, conjP, hm, hr, st0, en, el, e8, e9] <;> (first | omega | ((repeat' (refine And.intro ?_ ?_)) <;> (first | omega | exact decide_eq_false (by omega) | exact decide_eq_true (by omega)))))) ?_
  refine sx hX [.K, .F] 4000 rfl (by (simp [-List.getD_eq_getElem?_getD, -List.length_eq_zero_iff, conjP, getH, HE.so, en, Int.toNat_natCast])) ?_
  refine sx hX [.F] 4000 rfl (by (simp [-List.getD_eq_getElem?_getD, -List.length_eq_zero_iff, conjP, addOP])) ?_
  (refine J _ _ _ (sub_of [0, 1, 2, 3, 4, 5, 6, 7, 8, 9, 10, 11, 12] rfl rfl rfl rfl ?tt ?hh ?ot ?ok); (case tt => simp only [ewi, en]; exact clhP); (case hh => (try simp only [en, Int.toNat_natCast, List.length_set]); exact clhP); (case ot => exact clkP); (case ok => exact clkP))
end
end Go.Proofs.YtkkddjchkkaagaaGreatDoor
