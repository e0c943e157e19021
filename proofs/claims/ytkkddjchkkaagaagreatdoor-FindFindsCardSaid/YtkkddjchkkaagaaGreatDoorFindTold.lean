/- Find: what runs tell. -/
import Derived.Test.YtkkddjchkkaagaaGreatDoorFindRows
import Derived.Test.YtkkddjchkkaagaaGreatDoorSortFew
namespace Go.Proofs.YtkkddjchkkaagaaGreatDoor
open Go Go.Hx
set_option maxRecDepth 8000
def aseqS : Hx.Spec := fun args H => match args with
  | [.nilslice, .func (Fn.func 134) [] [.ptr h 0]] => match getH H h with
    | some (.cells [.nilslice] 30) => some ([], .nilslice, H.set h (.obj (.cells [.nilslice] 30)))
    | some (.cells [.sbuf g 1 0 n] 30) => match getH H g, nums[H.length]?, nodupN [h, g] with
      | some (.buf .i64 L 1 3), some k, true => some ([n = L.length, 0 < L.length, L.length < 1000], .sbuf k 1 0 L.length, ((H.set h (.obj (.cells [.sbuf g 1 0 L.length] 30))).set g (bfE L)) ++ [bfE L])
      | _, _, _ => none
    | _ => none
  | _ => none
theorem aseqS_ok {args : List SV} {H : List HE} {ob : List Prop} {V : SV} {L : List HE} (hs : aseqS args H = some (ob, V, L)) (ho : AllP ob) : Gives Tryz.prog 168 args H (Is V L) := by
  unfold aseqS at hs
  split at hs
  case h_2 => simp at hs
  rename_i _ h
  split at hs
  · rename_i hg
    simp only [Option.some.injEq, Prod.mk.injEq] at hs
    obtain ⟨rfl, rfl, rfl⟩ := hs
    have := frame1 (N := []) (H := H) (h0 := h) ⟨_, hTE⟩ aseq_nil rfl rfl rfl hg rfl
    simp only [List.map_nil, List.append_nil] at this
    exact this
  · rename_i g n hg
    split at hs
    case h_2 => simp at hs
    rename_i _ _ _ X k hg2 t0 hnd
    have t0' := nums_get _ _ t0
    subst t0'
    simp only [Option.some.injEq, Prod.mk.injEq] at hs
    obtain ⟨rfl, rfl, rfl⟩ := hs
    simp only [AllP, List.mem_cons, List.not_mem_nil, or_false, forall_eq_or_imp, forall_eq] at ho
    obtain ⟨rfl, o2, o3⟩ := ho
    exact frame2 (N := [_]) (H := H) (h0 := h) (h1 := g) ⟨_, hTE⟩ (aseq_fn X o2 o3) rfl rfl rfl hnd hg hg2 rfl
  · simp at hs
def ctGt : Nat → Option Hx.Spec
  | 168 => some (aseqS)
  | 133 => some (soS)
  | _ => none
theorem ctGt_ok : ∀ f s args H ob V L, ctGt f = some s → s args H = some (ob, V, L) → AllP ob → Gives Tryz.prog f args H (Is V L) := by
  intro f s args H ob V L h hs ho
  unfold ctGt at h
  split at h
  · simp at h; subst h; exact aseqS_ok hs ho
  · simp at h; subst h; exact soS_ok hs ho
  · simp at h
noncomputable def XGt : Tabs := tabs tr ft xt (fun _ => none) ctGt 20
theorem hXGt : TOk Tryz.prog (XGt) := ⟨hTE, hFT, ctGt_ok, hXT, fun t ks h => by simp [XGt, tabs] at h, mixed⟩
section
variable {T R : Int} {key seq : Int} {i : Nat} {fd pl ep : Int} {lg : Bool} {er tm : Int} {ph : Nat}
set_option maxHeartbeats 4000000 in
theorem ftld_t : Gives Tryz.prog 13 [.ptr 0 0] [.obj (fnC T R 0 ⟨key, 0, seq, i, fd, pl, ep, lg, 0, tm⟩)] (Is (.tup [.agg [.int .i64 pl, .int .i64 ep, .bool lg], .niliface]) [.obj (fnC T R 0 ⟨key, 0, seq, i, fd, pl, ep, lg, 0, tm⟩)]) := by
  refine gives_x hXGt (fn := Tryz.f13) rfl rfl rfl rfl fun ρ w => ?_
  dsimp only [fnC, fnx, lsC, lnx, slV]
  dsimp only [erV]
  refine sx hXGt [] 4000 rfl (by (simp [-List.getD_eq_getElem?_getD, -List.length_eq_zero_iff, conjP])) ?_
  (refine ss_end hXGt [0] rfl rfl trivial rfl rfl rfl rfl ?hv ?hh ?hk ?ho; (case hv => exact clF); (case hh => exact clF); (case hk => exact clF); (case ho => exact clF))
set_option maxHeartbeats 4000000 in
theorem ftld_f (he : ¬ er = 0) : Gives Tryz.prog 13 [.ptr 0 0] [.obj (fnC T R 0 ⟨key, 0, seq, i, fd, pl, ep, lg, er, tm⟩)] (Is (.tup [.agg [.int .i64 0, .int .i64 0, .ff], erO er]) [.obj (fnC T R 0 ⟨key, 0, seq, i, fd, pl, ep, lg, er, tm⟩)]) := by
  have ee : erV er = erO er := if_neg he
  refine gives_x hXGt (fn := Tryz.f13) rfl rfl rfl rfl fun ρ w => ?_
  dsimp only [fnC, fnx, lsC, lnx, slV]
  rw [ee]
  refine sx hXGt [] 4000 rfl (by (simp [-List.getD_eq_getElem?_getD, -List.length_eq_zero_iff, conjP, getH, HE.so])) ?_
  (refine ss_end hXGt [0] rfl rfl trivial rfl rfl rfl rfl ?hv ?hh ?hk ?ho; (case hv => exact clF); (case hh => exact clF); (case hk => exact clF); (case ho => exact clF))
set_option maxHeartbeats 4000000 in
theorem ftld_1 : Gives Tryz.prog 13 [.ptr 0 0] [.obj (fnC T R 0 ⟨key, 1, seq, i, fd, pl, ep, lg, er, tm⟩)] (Is (.tup [.agg [.int .i64 0, .int .i64 0, .ff], erO 13]) [.obj (fnC T R 0 ⟨key, 1, seq, i, fd, pl, ep, lg, er, tm⟩)]) := by
  refine gives_x hXGt (fn := Tryz.f13) rfl rfl rfl rfl fun ρ w => ?_
  dsimp only [fnC, fnx, lsC, lnx, slV]
  refine sx hXGt [] 4000 rfl (by (simp [-List.getD_eq_getElem?_getD, -List.length_eq_zero_iff, conjP])) ?_
  refine sx hXGt [.F] 4000 rfl (by (simp [-List.getD_eq_getElem?_getD, -List.length_eq_zero_iff, conjP, getH, HE.so])) ?_
  (refine ss_end hXGt [0] rfl rfl trivial rfl rfl rfl rfl ?hv ?hh ?hk ?ho; (case hv => exact clF); (case hh => exact clF); (case hk => exact clF); (case ho => exact clF))
set_option maxHeartbeats 4000000 in
theorem ftld_2 : Gives Tryz.prog 13 [.ptr 0 0] [.obj (fnC T R 0 ⟨key, 2, seq, i, fd, pl, ep, lg, er, tm⟩)] (Is (.tup [.agg [.int .i64 0, .int .i64 0, .ff], erO 13]) [.obj (fnC T R 0 ⟨key, 2, seq, i, fd, pl, ep, lg, er, tm⟩)]) := by
  refine gives_x hXGt (fn := Tryz.f13) rfl rfl rfl rfl fun ρ w => ?_
  dsimp only [fnC, fnx, lsC, lnx, slV]
  refine sx hXGt [] 4000 rfl (by (simp [-List.getD_eq_getElem?_getD, -List.length_eq_zero_iff, conjP])) ?_
  refine sx hXGt [.F] 4000 rfl (by (simp [-List.getD_eq_getElem?_getD, -List.length_eq_zero_iff, conjP, getH, HE.so])) ?_
  (refine ss_end hXGt [0] rfl rfl trivial rfl rfl rfl rfl ?hv ?hh ?hk ?ho; (case hv => exact clF); (case hh => exact clF); (case hk => exact clF); (case ho => exact clF))
set_option maxHeartbeats 4000000 in
theorem ftld_3 : Gives Tryz.prog 13 [.ptr 0 0] [.obj (fnC T R 0 ⟨key, 3, seq, i, fd, pl, ep, lg, er, tm⟩)] (Is (.tup [.agg [.int .i64 0, .int .i64 0, .ff], erO 13]) [.obj (fnC T R 0 ⟨key, 3, seq, i, fd, pl, ep, lg, er, tm⟩)]) := by
  refine gives_x hXGt (fn := Tryz.f13) rfl rfl rfl rfl fun ρ w => ?_
  dsimp only [fnC, fnx, lsC, lnx, slV]
  refine sx hXGt [] 4000 rfl (by (simp [-List.getD_eq_getElem?_getD, -List.length_eq_zero_iff, conjP])) ?_
  refine sx hXGt [.F] 4000 rfl (by (simp [-List.getD_eq_getElem?_getD, -List.length_eq_zero_iff, conjP, getH, HE.so])) ?_
  (refine ss_end hXGt [0] rfl rfl trivial rfl rfl rfl rfl ?hv ?hh ?hk ?ho; (case hv => exact clF); (case hh => exact clF); (case hk => exact clF); (case ho => exact clF))
set_option maxHeartbeats 4000000 in
theorem ftld_4 : Gives Tryz.prog 13 [.ptr 0 0] [.obj (fnC T R 0 ⟨key, 4, seq, i, fd, pl, ep, lg, er, tm⟩)] (Is (.tup [.agg [.int .i64 0, .int .i64 0, .ff], erO 13]) [.obj (fnC T R 0 ⟨key, 4, seq, i, fd, pl, ep, lg, er, tm⟩)]) := by
  refine gives_x hXGt (fn := Tryz.f13) rfl rfl rfl rfl fun ρ w => ?_
  dsimp only [fnC, fnx, lsC, lnx, slV]
  refine sx hXGt [] 4000 rfl (by (simp [-List.getD_eq_getElem?_getD, -List.length_eq_zero_iff, conjP])) ?_
  refine sx hXGt [.F] 4000 rfl (by (simp [-List.getD_eq_getElem?_getD, -List.length_eq_zero_iff, conjP, getH, HE.so])) ?_
  (refine ss_end hXGt [0] rfl rfl trivial rfl rfl rfl rfl ?hv ?hh ?hk ?ho; (case hv => exact clF); (case hh => exact clF); (case hk => exact clF); (case ho => exact clF))
set_option maxHeartbeats 4000000 in
theorem ltld_n : Gives Tryz.prog 14 [.ptr 0 0] [.obj (lsC T R 0 1 ⟨0, seq, i, fd, none, 0, tm⟩)] (Is (.tup [.nilslice, .niliface]) [.obj (lsC T R 0 1 ⟨0, seq, i, fd, none, 0, tm⟩)]) := by
  refine gives_x hXGt (fn := Tryz.f14) rfl rfl rfl rfl fun ρ w => ?_
  dsimp only [fnC, fnx, lsC, lnx, slV]
  dsimp only [erV]
  refine sx hXGt [] 4000 rfl (by (simp [-List.getD_eq_getElem?_getD, -List.length_eq_zero_iff, conjP])) ?_
  (refine ss_end hXGt [0] rfl rfl trivial rfl rfl rfl rfl ?hv ?hh ?hk ?ho; (case hv => exact clF); (case hh => exact clF); (case hk => exact clF); (case ho => exact clF))
set_option maxHeartbeats 4000000 in
theorem ltld_s {l : List Int} (h0 : 0 < l.length) (h12 : l.length ≤ 12) : Gives Tryz.prog 14 [.ptr 0 0] [.obj (lsC T R 0 1 ⟨0, seq, i, fd, some l, 0, tm⟩), bfE l] (Is (.tup [.sbuf 2 1 0 l.length, .niliface]) [.obj (lsC T R 0 1 ⟨0, seq, i, fd, some l, 0, tm⟩), bfE l, bfE (srt l)]) := by
  have h9 : l.length < 1000 := by omega
  have hs := srt_len l
  refine gives_x hXGt (fn := Tryz.f14) rfl rfl rfl rfl fun ρ w => ?_
  dsimp only [fnC, fnx, lsC, lnx, slV]
  dsimp only [erV]
  refine sx hXGt [] 4000 rfl (by (simp [-List.getD_eq_getElem?_getD, -List.length_eq_zero_iff, conjP, h0, h9, h12])) ?_
  (refine ss_end hXGt [0, 1, 3] rfl rfl trivial rfl rfl rfl rfl ?hv ?hh ?hk ?ho; (case hv => exact clF); (case hh => exact clF); (case hk => exact clF); (case ho => exact clF))
set_option maxHeartbeats 4000000 in
theorem ltld_f0 (he : ¬ er = 0) : Gives Tryz.prog 14 [.ptr 0 0] [.obj (lsC T R 0 1 ⟨0, seq, i, fd, none, er, tm⟩)] (Is (.tup [.nilslice, erO er]) [.obj (lsC T R 0 1 ⟨0, seq, i, fd, none, er, tm⟩)]) := by
  have ee : erV er = erO er := if_neg he
  refine gives_x hXGt (fn := Tryz.f14) rfl rfl rfl rfl fun ρ w => ?_
  dsimp only [fnC, fnx, lsC, lnx, slV]
  rw [ee]
  refine sx hXGt [] 4000 rfl (by (simp [-List.getD_eq_getElem?_getD, -List.length_eq_zero_iff, conjP])) ?_
  (refine ss_end hXGt [0] rfl rfl trivial rfl rfl rfl rfl ?hv ?hh ?hk ?ho; (case hv => exact clF); (case hh => exact clF); (case hk => exact clF); (case ho => exact clF))
set_option maxHeartbeats 4000000 in
theorem ltld_10 : Gives Tryz.prog 14 [.ptr 0 0] [.obj (lsC T R 0 1 ⟨1, seq, i, fd, none, er, tm⟩)] (Is (.tup [.nilslice, erO 13]) [.obj (lsC T R 0 1 ⟨1, seq, i, fd, none, er, tm⟩)]) := by
  refine gives_x hXGt (fn := Tryz.f14) rfl rfl rfl rfl fun ρ w => ?_
  dsimp only [fnC, fnx, lsC, lnx, slV]
  refine sx hXGt [] 4000 rfl (by (simp [-List.getD_eq_getElem?_getD, -List.length_eq_zero_iff, conjP])) ?_
  refine sx hXGt [.F] 4000 rfl (by (simp [-List.getD_eq_getElem?_getD, -List.length_eq_zero_iff, conjP, addOP])) ?_
  (refine ss_end hXGt [0] rfl rfl trivial rfl rfl rfl rfl ?hv ?hh ?hk ?ho; (case hv => exact clF); (case hh => exact clF); (case hk => exact clF); (case ho => exact clF))
set_option maxHeartbeats 4000000 in
theorem ltld_20 : Gives Tryz.prog 14 [.ptr 0 0] [.obj (lsC T R 0 1 ⟨2, seq, i, fd, none, er, tm⟩)] (Is (.tup [.nilslice, erO 13]) [.obj (lsC T R 0 1 ⟨2, seq, i, fd, none, er, tm⟩)]) := by
  refine gives_x hXGt (fn := Tryz.f14) rfl rfl rfl rfl fun ρ w => ?_
  dsimp only [fnC, fnx, lsC, lnx, slV]
  refine sx hXGt [] 4000 rfl (by (simp [-List.getD_eq_getElem?_getD, -List.length_eq_zero_iff, conjP])) ?_
  refine sx hXGt [.F] 4000 rfl (by (simp [-List.getD_eq_getElem?_getD, -List.length_eq_zero_iff, conjP, addOP])) ?_
  (refine ss_end hXGt [0] rfl rfl trivial rfl rfl rfl rfl ?hv ?hh ?hk ?ho; (case hv => exact clF); (case hh => exact clF); (case hk => exact clF); (case ho => exact clF))
set_option maxHeartbeats 4000000 in
theorem ltld_40 : Gives Tryz.prog 14 [.ptr 0 0] [.obj (lsC T R 0 1 ⟨4, seq, i, fd, none, er, tm⟩)] (Is (.tup [.nilslice, erO 13]) [.obj (lsC T R 0 1 ⟨4, seq, i, fd, none, er, tm⟩)]) := by
  refine gives_x hXGt (fn := Tryz.f14) rfl rfl rfl rfl fun ρ w => ?_
  dsimp only [fnC, fnx, lsC, lnx, slV]
  refine sx hXGt [] 4000 rfl (by (simp [-List.getD_eq_getElem?_getD, -List.length_eq_zero_iff, conjP])) ?_
  refine sx hXGt [.F] 4000 rfl (by (simp [-List.getD_eq_getElem?_getD, -List.length_eq_zero_iff, conjP, addOP])) ?_
  (refine ss_end hXGt [0] rfl rfl trivial rfl rfl rfl rfl ?hv ?hh ?hk ?ho; (case hv => exact clF); (case hh => exact clF); (case hk => exact clF); (case ho => exact clF))
set_option maxHeartbeats 4000000 in
theorem ltld_f1 {l : List Int} (he : ¬ er = 0) : Gives Tryz.prog 14 [.ptr 0 0] [.obj (lsC T R 0 1 ⟨0, seq, i, fd, some l, er, tm⟩), bfE l] (Is (.tup [.nilslice, erO er]) [.obj (lsC T R 0 1 ⟨0, seq, i, fd, some l, er, tm⟩), bfE l]) := by
  have ee : erV er = erO er := if_neg he
  refine gives_x hXGt (fn := Tryz.f14) rfl rfl rfl rfl fun ρ w => ?_
  dsimp only [fnC, fnx, lsC, lnx, slV]
  rw [ee]
  refine sx hXGt [] 4000 rfl (by (simp [-List.getD_eq_getElem?_getD, -List.length_eq_zero_iff, conjP])) ?_
  (refine ss_end hXGt [0, 1] rfl rfl trivial rfl rfl rfl rfl ?hv ?hh ?hk ?ho; (case hv => exact clF); (case hh => exact clF); (case hk => exact clF); (case ho => exact clF))
set_option maxHeartbeats 4000000 in
theorem ltld_11 {l : List Int} : Gives Tryz.prog 14 [.ptr 0 0] [.obj (lsC T R 0 1 ⟨1, seq, i, fd, some l, er, tm⟩), bfE l] (Is (.tup [.nilslice, erO 13]) [.obj (lsC T R 0 1 ⟨1, seq, i, fd, some l, er, tm⟩), bfE l]) := by
  refine gives_x hXGt (fn := Tryz.f14) rfl rfl rfl rfl fun ρ w => ?_
  dsimp only [fnC, fnx, lsC, lnx, slV]
  refine sx hXGt [] 4000 rfl (by (simp [-List.getD_eq_getElem?_getD, -List.length_eq_zero_iff, conjP])) ?_
  refine sx hXGt [.F] 4000 rfl (by (simp [-List.getD_eq_getElem?_getD, -List.length_eq_zero_iff, conjP, addOP])) ?_
  (refine ss_end hXGt [0, 1] rfl rfl trivial rfl rfl rfl rfl ?hv ?hh ?hk ?ho; (case hv => exact clF); (case hh => exact clF); (case hk => exact clF); (case ho => exact clF))
set_option maxHeartbeats 4000000 in
theorem ltld_21 {l : List Int} : Gives Tryz.prog 14 [.ptr 0 0] [.obj (lsC T R 0 1 ⟨2, seq, i, fd, some l, er, tm⟩), bfE l] (Is (.tup [.nilslice, erO 13]) [.obj (lsC T R 0 1 ⟨2, seq, i, fd, some l, er, tm⟩), bfE l]) := by
  refine gives_x hXGt (fn := Tryz.f14) rfl rfl rfl rfl fun ρ w => ?_
  dsimp only [fnC, fnx, lsC, lnx, slV]
  refine sx hXGt [] 4000 rfl (by (simp [-List.getD_eq_getElem?_getD, -List.length_eq_zero_iff, conjP])) ?_
  refine sx hXGt [.F] 4000 rfl (by (simp [-List.getD_eq_getElem?_getD, -List.length_eq_zero_iff, conjP, addOP])) ?_
  (refine ss_end hXGt [0, 1] rfl rfl trivial rfl rfl rfl rfl ?hv ?hh ?hk ?ho; (case hv => exact clF); (case hh => exact clF); (case hk => exact clF); (case ho => exact clF))
set_option maxHeartbeats 4000000 in
theorem ltld_41 {l : List Int} : Gives Tryz.prog 14 [.ptr 0 0] [.obj (lsC T R 0 1 ⟨4, seq, i, fd, some l, er, tm⟩), bfE l] (Is (.tup [.nilslice, erO 13]) [.obj (lsC T R 0 1 ⟨4, seq, i, fd, some l, er, tm⟩), bfE l]) := by
  refine gives_x hXGt (fn := Tryz.f14) rfl rfl rfl rfl fun ρ w => ?_
  dsimp only [fnC, fnx, lsC, lnx, slV]
  refine sx hXGt [] 4000 rfl (by (simp [-List.getD_eq_getElem?_getD, -List.length_eq_zero_iff, conjP])) ?_
  refine sx hXGt [.F] 4000 rfl (by (simp [-List.getD_eq_getElem?_getD, -List.length_eq_zero_iff, conjP, addOP])) ?_
  (refine ss_end hXGt [0, 1] rfl rfl trivial rfl rfl rfl rfl ?hv ?hh ?hk ?ho; (case hv => exact clF); (case hh => exact clF); (case hk => exact clF); (case ho => exact clF))
end
end Go.Proofs.YtkkddjchkkaagaaGreatDoor
