/- slices.Sorted of the values of a row: the row, sorted. -/
import Derived.Test.YtkkddjchkkaagaaGreatDoorFindSteps
import Derived.Test.YtkkddjchkkaagaaGreatDoorHyc
namespace Go.Proofs.YtkkddjchkkaagaaGreatDoor
open Go Go.Hx
set_option maxRecDepth 8000
set_option maxHeartbeats 4000000
def ctAq : Nat → Option Hx.Spec
  | _ => none
theorem ctAq_ok : ∀ f s args H ob V L, ctAq f = some s → s args H = some (ob, V, L) → AllP ob → Gives Tryz.prog f args H (Is V L) := by
  intro f s args H ob V L h hs ho
  unfold ctAq at h
  split at h
  · simp at h
noncomputable def XAq : Tabs := tabs tr ft xt (fun _ => none) ctAq 0
theorem hXAq : TOk Tryz.prog (XAq) := ⟨hTE, hFT, ctAq_ok, hXT, fun t ks h => by simp [XAq, tabs] at h, mixed⟩
/-- The first of them, or none. -/
def tkO (l : List Int) : Nat → Option (List Int)
  | 0 => none
  | j + 1 => some (l.take (j + 1))
theorem tkO_lst {l : List Int} {j : Nat} : lst (tkO l j) = l.take j := by cases j <;> rfl
theorem tkO_s {l : List Int} {j : Nat} (h : j < l.length) : tkO l (j + 1) = some (lst (tkO l j) ++ [l.getD j 0]) := by
  rw [tkO_lst]
  simp only [tkO]
  rw [List.take_add_one, List.getElem?_eq_getElem h, List.getD_eq_getElem?_getD, List.getElem?_eq_getElem h]
  rfl
abbrev bxE (n : Nat) : HE := .obj (.cells [.sbuf 1 1 0 n] 30)
abbrev bfE (l : List Int) : HE := .obj (.buf .i64 l 1 3)
abbrev aqT (l : List Int) (y j : Nat) : List (Nat × SV) := [(0, .raw (.func (.yield y) #[] #[])), (5, .sbuf 1 1 0 l.length), (6, .int .i64 (l.length : Int)), (7, .int .i64 (j : Int))]
abbrev aqH (l : List Int) (o : Option (List Int)) : List HE := [bxE l.length, bfE l, .obj (.cells [slV o 3] 30), slE o .i64 3]
theorem clQ {P : Prop} (h : P := by repeat' (first | exact rfl | exact trivial | exact sim_refl _ | exact simO_refl _ | exact sim_slVr rfl | exact len_app1 | exact subE_same rfl ren_slE | refine And.intro ?_ ?_)) : P := h
theorem clQk {P : Prop} (h : P := by repeat' (first | exact rfl | exact trivial | exact okE_slE | exact okP_slV rfl | refine And.intro ?_ ?_)) : P := h
set_option maxHeartbeats 8000000 in
theorem aseq_fn (l : List Int) (h0 : 0 < l.length) (hl : l.length < 1000) : Gives Tryz.prog 168 [.nilslice, .func (Fn.func 134) [] [.ptr 0 0]] [bxE l.length, bfE l] (Is (.sbuf 2 1 0 l.length) [bxE l.length, bfE l, bfE l]) := by
  have hXL := hXAq
  have hl9 : l.length + 1 ≤ 4294967296 := by omega
  refine si_fn (fn := Tryz.f168) rfl rfl rfl fun ρ w => ?_
  refine si_seq ?_
  refine' si_region hXL (fn := Tryz.f168) rfl ?n0 (fun ρ W J hJ => ?h0) ?k0
  case h0 =>
    refine sx hXL [] 400 rfl (by (simp [-List.getD_eq_getElem?_getD, -List.length_eq_zero_iff, conjP, addOP])) ?_
    (exact hJ _ _ _ Sub.rfl)
  case n0 => rfl
  refine si_seq ?_
  refine si_seq ?_
  refine' si_region hXL (fn := Tryz.f168) rfl ?n1 (fun ρ W J hJ => ?h1) ?k1
  case h1 =>
    refine sx hXL [] 400 rfl (by (simp [-List.getD_eq_getElem?_getD, -List.length_eq_zero_iff, conjP, addOP])) ?_
    (exact hJ _ _ _ Sub.rfl)
  case n1 => rfl
  refine si_block ?_
  refine si_over (fng := Tryz.f134) rfl rfl rfl rfl rfl rfl fun ρ a W1 y b bs1 fid Qi hts hbl hbs hend => ?_
  refine si_seq ?_
  refine' si_region hXL (fn := Tryz.f134) rfl ?n5 (fun ρ W J hJ => ?h5) ?k5
  case h5 =>
    refine sx hXL [] 400 rfl (by (simp [-List.getD_eq_getElem?_getD, -List.length_eq_zero_iff, conjP, addOP])) ?_
    (exact hJ _ _ _ Sub.rfl)
  case n5 => rfl
  refine si_block ?_
  refine si_told hXL (T1 := aqT l y 0) (H1 := aqH l (tkO l 0)) [0, 1, 2, 3] rfl rfl rfl rfl (by (repeat' (first | exact rfl | exact trivial | exact sim_refl _ | refine And.intro ?_ ?_))) (by (repeat' (first | exact rfl | exact trivial | exact sim_refl _ | refine And.intro ?_ ?_))) (by (repeat' (first | exact rfl | exact trivial | exact sim_refl _ | refine And.intro ?_ ?_))) (by (repeat' (first | exact rfl | exact trivial | exact sim_refl _ | refine And.intro ?_ ?_))) ?_
  refine si_loop (fun j : Nat => aqT l y j) (fun j => aqH l (tkO l j)) (fun j => j ≤ l.length) (fun j => l.length - j) 0 (Nat.zero_le _) ?_
  intro j hj I back
  have hj : j ≤ l.length := hj
  have ewj : IntKind.i64.wrap ((j : Int) + 1) = ((j + 1 : Nat) : Int) := by rw [wi64 (by omega) (by omega)]; omega
  refine si_seq ?_
  refine' si_region hXL (fn := Tryz.f134) rfl ?n6 (fun ρ W J hJ => ?h6) ?k6
  case h6 =>
    refine sx hXL [] 400 rfl (by (simp [-List.getD_eq_getElem?_getD, -List.length_eq_zero_iff, conjP, addOP])) ?_
    (exact hJ _ _ _ Sub.rfl)
  case n6 => cases j <;> rfl
  refine si_seq ?_
  refine si_cond rfl (fun hb => ?t1) (fun hb => ?f1)
  case f1 =>
    have hb : ¬ j < l.length := by simpa using hb
    obtain rfl : j = l.length := by omega
    refine si_exit rfl ?_
    have ek : tkO l l.length = some l := by
      obtain ⟨m, hm⟩ : ∃ m, l.length = m + 1 := ⟨l.length - 1, by omega⟩
      rw [hm]; simp only [tkO]; rw [← hm, List.take_length]
    rw [ek]
    refine (hend _ _ _ (by simp [recL]) rfl (fun b' hb' => ?af)).1
    case af =>
      show SI _ _ _ _ _ _ _ _ _ (.blk _ :: _) _ _
      refine si_blk ?_
      refine si_seq ?_
      refine' si_region hXL (fn := Tryz.f168) rfl ?nY (fun ρ W J hJ => ?hY) ?kY
      case hY =>
        refine sx hXL [] 400 rfl (by (simp [-List.getD_eq_getElem?_getD, -List.length_eq_zero_iff, conjP, addOP])) ?_
        (exact hJ _ _ _ Sub.rfl)
      case nY => rfl
      refine si_mark_ret hXL hb' ?_
      exact ss_end0 hXL [0, 1, 3] rfl trivial rfl rfl rfl rfl (by (repeat' (first | exact rfl | exact trivial | exact sim_refl _ | refine And.intro ?_ ?_))) (by (repeat' (first | exact rfl | exact trivial | exact sim_refl _ | refine And.intro ?_ ?_))) (by (repeat' (first | exact rfl | exact trivial | exact sim_refl _ | refine And.intro ?_ ?_))) (by (repeat' (first | exact rfl | exact trivial | exact sim_refl _ | refine And.intro ?_ ?_)))
  have hb : j < l.length := by simpa using hb
  have hb2 : (j : Int) < (l.length : Int) := by omega
  have eco : cellOff j 1 0 = j := by simp [cellOff]
  have hj0 : (0 : Int) ≤ (j : Int) := by omega
  have es := tkO_s hb
  have bk := back (j + 1) (by show j + 1 ≤ l.length; omega) (by show l.length - (j + 1) < l.length - j; omega)
  have hgl : (lst (tkO l j)).length ≤ 1000 := by rw [tkO_lst, List.length_take]; omega
  rw [es] at bk
  clear es back
  generalize tkO l j = o at bk hgl ⊢
  refine si_skip ?_
  refine si_seq ?_
  refine si_block ?_
  refine si_seq ?_
  refine' si_region hXL (fn := Tryz.f134) rfl ?n7 (fun ρ W J hJ => ?h7) ?k7
  case h7 =>
    refine sx hXL [] 400 rfl (by (simp [-List.getD_eq_getElem?_getD, -List.length_eq_zero_iff, conjP, hb2, hj0, cellOff, Int.toNat_natCast] <;> (first | omega | ((repeat' (refine And.intro ?_ ?_)) <;> (first | omega | exact decide_eq_false (by omega) | exact decide_eq_true (by omega)))))) ?_
    (exact hJ _ _ _ Sub.rfl)
  case n7 => cases o <;> rfl
  refine si_seq ?_
  refine si_ops ?_
  refine si_split 2 ?_
  refine' si_ops_run hXL (fn := Tryz.f134) rfl ?n9 (fun ρ W J hJ => ?h9) ?k9
  case h9 =>
    refine sx hXL [] 400 rfl (by (simp [-List.getD_eq_getElem?_getD, -List.length_eq_zero_iff, conjP, addOP])) ?_
    (exact hJ _ _ _ Sub.rfl)
  case n9 => cases o <;> rfl
  refine si_yield (c := _) (x := .tmp 11) (d := 13) (nto := Tryz.f168.ntmps) (To := _) rfl rfl rfl rfl rfl rfl rfl rfl (by decide) (.inr hbs) (by simp; exact hbl) rfl ⟨hts.val, hts.num, rfl⟩ ?_
  intro ρ2 Qr J hbegin hgo hout
  refine' si_region hXL (fn := Tryz.f168) rfl ?n10 (fun ρ W J hJ => ?h10) ?k10
  case h10 =>
    refine sx hXL [] 400 rfl (by (simp [-List.getD_eq_getElem?_getD, -List.length_eq_zero_iff, conjP, addOP])) ?_
    (exact hJ _ _ _ Sub.rfl)
  case n10 => cases o <;> rfl
  refine hbegin _ _ ?_
  refine si_block ?_
  rcases o with _ | g
  · refine' si_region hXL (fn := Tryz.f168) rfl ?nAn (fun ρ W J hJ => ?hAn) ?kAn
    case hAn =>
      refine sx hXL [] 400 rfl (by (simp [-List.getD_eq_getElem?_getD, -List.length_eq_zero_iff, conjP, cellOff, Int.toNat_natCast])) ?_
      (exact hJ _ _ _ Sub.rfl)
    case nAn => rfl
    refine si_blk ?_
    refine hgo _ _ ?_
    refine si_split 1 ?_
    refine' si_ops_run hXL (fn := Tryz.f134) rfl ?nBn (fun ρ W J hJ => ?hBn) ?kBn
    case hBn =>
      refine sx hXL [] 400 rfl (by (simp [-List.getD_eq_getElem?_getD, -List.length_eq_zero_iff, conjP, addOP])) ?_
      (exact hJ _ _ _ Sub.rfl)
    case nBn => rfl
    refine si_ops_nil ?_
    refine si_ff rfl ?_
    refine si_skip ?_
    refine si_blk ?_
    refine' si_region hXL (fn := Tryz.f134) rfl ?nCn (fun ρ W J hJ => ?hCn) ?kCn
    case hCn =>
      refine sx hXL [] 400 rfl (by (simp [-List.getD_eq_getElem?_getD, -List.length_eq_zero_iff, conjP, addOP])) ?_
      (exact hJ _ _ _ Sub.rfl)
    case nCn => rfl
    refine si_told hXL (T1 := aqT l y (j + 1)) (H1 := aqH l (some (lst none ++ [l.getD j 0]))) [0, 1, 2, 5] rfl rfl rfl rfl ?tan ?tbn ?tcn ?tdn bk
    case tan => simp only [ewj]; exact clQ
    case tbn => exact clQ
    case tcn => exact clQk
    case tdn => exact clQk
  · have hg9 : g.length + 1 ≤ 4294967296 := by have hg : g.length ≤ 1000 := hgl; omega
    refine' si_region hXL (fn := Tryz.f168) rfl ?nAs (fun ρ W J hJ => ?hAs) ?kAs
    case hAs =>
      refine sx hXL [] 400 rfl (by (simp [-List.getD_eq_getElem?_getD, -List.length_eq_zero_iff, conjP, hg9, cellOff, Int.toNat_natCast])) ?_
      (exact hJ _ _ _ Sub.rfl)
    case nAs => rfl
    refine si_blk ?_
    refine hgo _ _ ?_
    refine si_split 1 ?_
    refine' si_ops_run hXL (fn := Tryz.f134) rfl ?nBs (fun ρ W J hJ => ?hBs) ?kBs
    case hBs =>
      refine sx hXL [] 400 rfl (by (simp [-List.getD_eq_getElem?_getD, -List.length_eq_zero_iff, conjP, addOP])) ?_
      (exact hJ _ _ _ Sub.rfl)
    case nBs => rfl
    refine si_ops_nil ?_
    refine si_ff rfl ?_
    refine si_skip ?_
    refine si_blk ?_
    refine' si_region hXL (fn := Tryz.f134) rfl ?nCs (fun ρ W J hJ => ?hCs) ?kCs
    case hCs =>
      refine sx hXL [] 400 rfl (by (simp [-List.getD_eq_getElem?_getD, -List.length_eq_zero_iff, conjP, addOP])) ?_
      (exact hJ _ _ _ Sub.rfl)
    case nCs => rfl
    refine si_told hXL (T1 := aqT l y (j + 1)) (H1 := aqH l (some (lst (some g) ++ [l.getD j 0]))) [0, 1, 2, 5] rfl rfl rfl rfl ?tas ?tbs ?tcs ?tds bk
    case tas => simp only [ewj]; exact clQ
    case tbs => exact clQ
    case tcs => exact clQk
    case tds => exact clQk
set_option maxHeartbeats 8000000 in
theorem aseq_nil : Gives Tryz.prog 168 [.nilslice, .func (Fn.func 134) [] [.ptr 0 0]] [.obj (.cells [.nilslice] 30)] (Is .nilslice [.obj (.cells [.nilslice] 30)]) := by
  have hXL := hXAq
  refine si_fn (fn := Tryz.f168) rfl rfl rfl fun ρ w => ?_
  refine si_seq ?_
  refine' si_region hXL (fn := Tryz.f168) rfl ?n0 (fun ρ W J hJ => ?h0) ?k0
  case h0 =>
    refine sx hXL [] 400 rfl (by (simp [-List.getD_eq_getElem?_getD, -List.length_eq_zero_iff, conjP, addOP])) ?_
    (exact hJ _ _ _ Sub.rfl)
  case n0 => rfl
  refine si_seq ?_
  refine si_seq ?_
  refine' si_region hXL (fn := Tryz.f168) rfl ?n1 (fun ρ W J hJ => ?h1) ?k1
  case h1 =>
    refine sx hXL [] 400 rfl (by (simp [-List.getD_eq_getElem?_getD, -List.length_eq_zero_iff, conjP, addOP])) ?_
    (exact hJ _ _ _ Sub.rfl)
  case n1 => rfl
  refine si_block ?_
  refine si_over (fng := Tryz.f134) rfl rfl rfl rfl rfl rfl fun ρ a W1 y b bs1 fid Qi hts hbl hbs hend => ?_
  refine si_seq ?_
  refine' si_region hXL (fn := Tryz.f134) rfl ?n5 (fun ρ W J hJ => ?h5) ?k5
  case h5 =>
    refine sx hXL [] 400 rfl (by (simp [-List.getD_eq_getElem?_getD, -List.length_eq_zero_iff, conjP, addOP])) ?_
    (exact hJ _ _ _ Sub.rfl)
  case n5 => rfl
  refine si_block ?_
  refine si_told hXL (T1 := [(0, .raw (.func (.yield y) #[] #[])), (6, .int .i64 0), (7, .int .i64 0)]) (H1 := [.obj (.cells [.nilslice] 30), .obj (.cells [.nilslice] 30)]) [0, 1] rfl rfl rfl rfl (by (repeat' (first | exact rfl | exact trivial | exact sim_refl _ | refine And.intro ?_ ?_))) (by (repeat' (first | exact rfl | exact trivial | exact sim_refl _ | refine And.intro ?_ ?_))) (by (repeat' (first | exact rfl | exact trivial | exact sim_refl _ | refine And.intro ?_ ?_))) (by (repeat' (first | exact rfl | exact trivial | exact sim_refl _ | refine And.intro ?_ ?_))) ?_
  refine si_loop (fun _ : Unit => [(0, .raw (.func (.yield y) #[] #[])), (6, .int .i64 0), (7, .int .i64 0)]) (fun _ => [.obj (.cells [.nilslice] 30), .obj (.cells [.nilslice] 30)]) (fun _ => True) (fun _ => 0) () trivial ?_
  intro _ _ I _
  refine si_seq ?_
  refine' si_region hXL (fn := Tryz.f134) rfl ?n6 (fun ρ W J hJ => ?h6) ?k6
  case h6 =>
    refine sx hXL [] 400 rfl (by (simp [-List.getD_eq_getElem?_getD, -List.length_eq_zero_iff, conjP, addOP])) ?_
    (exact hJ _ _ _ Sub.rfl)
  case n6 => rfl
  refine si_seq ?_
  refine si_cond rfl (fun hb => ?t1) (fun hb => ?f1)
  case t1 => exact absurd hb (by decide)
  refine si_exit rfl ?_
  refine (hend _ _ _ (by simp [recL]) rfl (fun b' hb' => ?af)).1
  case af =>
    show SI _ _ _ _ _ _ _ _ _ (.blk _ :: _) _ _
    refine si_blk ?_
    refine si_seq ?_
    refine' si_region hXL (fn := Tryz.f168) rfl ?nY (fun ρ W J hJ => ?hY) ?kY
    case hY =>
      refine sx hXL [] 400 rfl (by (simp [-List.getD_eq_getElem?_getD, -List.length_eq_zero_iff, conjP, addOP])) ?_
      (exact hJ _ _ _ Sub.rfl)
    case nY => rfl
    refine si_mark_ret hXL hb' ?_
    exact ss_end0 hXL [0] rfl trivial rfl rfl rfl rfl (by (repeat' (first | exact rfl | exact trivial | exact sim_refl _ | refine And.intro ?_ ?_))) (by (repeat' (first | exact rfl | exact trivial | exact sim_refl _ | refine And.intro ?_ ?_))) (by (repeat' (first | exact rfl | exact trivial | exact sim_refl _ | refine And.intro ?_ ?_))) (by (repeat' (first | exact rfl | exact trivial | exact sim_refl _ | refine And.intro ?_ ?_)))
end Go.Proofs.YtkkddjchkkaagaaGreatDoor
