/- slices.Sorted of a map's keys. -/
import Derived.Test.YtfdkaakllceebaaSortFew
import Derived.Test.YtfdkaakllceebaaHyc
namespace Go.Proofs.Ytfdkaakllceebaa
open Go Go.Hx
set_option maxRecDepth 8000
def ctMq : Nat → Option Hx.Spec
  | _ => none
theorem ctMq_ok : ∀ f s args H ob V L, ctMq f = some s → s args H = some (ob, V, L) → AllP ob → Gives Try.prog f args H (Is V L) := by
  intro f s args H ob V L h hs ho
  unfold ctMq at h
  split at h
  · simp at h
noncomputable def XMq : Tabs := tabs tr ft xt (fun _ => none) ctMq 0
theorem hXMq : TOk Try.prog (XMq) := ⟨hTE, hFT, ctMq_ok, hXT, fun t ks h => by simp [XMq, tabs] at h, mixed⟩
def ctMs : Nat → Option Hx.Spec
  | 85 => some (soS)
  | _ => none
theorem ctMs_ok : ∀ f s args H ob V L, ctMs f = some s → s args H = some (ob, V, L) → AllP ob → Gives Try.prog f args H (Is V L) := by
  intro f s args H ob V L h hs ho
  unfold ctMs at h
  split at h
  · simp at h; subst h; exact soS_ok hs ho
  · simp at h
noncomputable def XMs : Tabs := tabs tr ft xt (fun _ => none) ctMs 0
theorem hXMs : TOk Try.prog (XMs) := ⟨hTE, hFT, ctMs_ok, hXT, fun t ks h => by simp [XMs, tabs] at h, mixed⟩
/-- A list, or none. -/
def opL (l : List Int) : Option (List Int) := if l = [] then none else some l
theorem opL_app (l : List Int) (x : Int) : opL (l ++ [x]) = some (l ++ [x]) := by unfold opL; rw [if_neg (by simp)]
theorem opL_some {l : List Int} (h : ¬ l = []) : opL l = some l := by unfold opL; rw [if_neg h]
/-! A list in order. -/
abbrev Up (l : List Int) : Prop := l.Pairwise (· ≤ ·)
theorem srt_Up (l : List Int) : Up (srt l) := List.pairwise_iff_getElem.2 fun i j hi hj h => by
  have := srt_up (l := l) h (by rw [srt_len] at hj; exact hj)
  rwa [List.getD_eq_getElem?_getD, List.getD_eq_getElem?_getD, List.getElem?_eq_getElem hi, List.getElem?_eq_getElem hj] at this
theorem up_eq {a b : List Int} (ha : Up a) (hb : Up b) (h : a.Perm b) : a = b := List.Perm.eq_of_pairwise (fun _ _ _ _ h1 h2 => by omega) ha hb h
theorem srt_perm_eq {a b : List Int} (h : a.Perm b) : srt a = srt b := up_eq (srt_Up a) (srt_Up b) ((srt_perm a).trans (h.trans (srt_perm b).symm))
abbrev mbE : HE := .obj (.cells [.map 1] 109)
abbrev keysF : SV := .func (Fn.func 86) [] [.ptr 0 0]
/-- What is told of a map's keys: all of them, in some order. -/
def KeysR (ks : List (Int × Int)) (V : SV) (L : List HE) : Prop := ∃ l : List Int, l.Perm (ks.map (·.1)) ∧ V = slV (opL l) 2 ∧ L = [mbE, .obj (.mp ks), slE (opL l) .i64 3]
abbrev mqT (y : Nat) : List (Nat × SV) := [(0, .raw (.func (.yield y) #[] #[])), (5, .ptr 4 0)]
abbrev mqH (ks : List (Int × Int)) (l : List Int) (seen : List Nat) : List HE := [mbE, .obj (.mp ks), .obj (.cells [slV (opL l) 3] 43), slE (opL l) .i64 3, .obj (.it 1 ks.length seen)]
theorem len_appM {l : List Int} {k : Int} : l.length + 1 = (l ++ [k]).length := by simp
theorem sim_slVr {o : Option (List Int)} {h h' : Nat} {σ : Nat → Nat} (hs : σ h' = h) : sim (slV o h) ((slV o h').ren σ) := by
  subst hs
  cases o <;> simp [slV, SV.ren, sim, simO0]
theorem clM {P : Prop} (h : P := by repeat' (first | exact rfl | exact trivial | exact sim_refl _ | exact simO_refl _ | exact sim_slVr rfl | exact len_appM | exact subE_same rfl ren_slE | refine And.intro ?_ ?_)) : P := h
theorem clMk {P : Prop} (h : P := by repeat' (first | exact rfl | exact trivial | exact okE_slE | exact okP_slV rfl | refine And.intro ?_ ?_)) : P := h
set_option maxHeartbeats 8000000 in
theorem aseqM_fn (ks : List (Int × Int)) (hk : ks.length < 1000) : Gives Try.prog 89 [.nilslice, keysF] [mbE, .obj (.mp ks)] (KeysR ks) := by
  have hXL := hXMq
  refine si_fn (fn := Try.f89) rfl rfl rfl fun ρ w => ?_
  refine si_seq ?_
  refine' si_region hXL (fn := Try.f89) rfl ?n0 (fun ρ W J hJ => ?h0) ?k0
  case h0 =>
    refine sx hXL [] 400 rfl (by (simp [conjP, addOP])) ?_
    (exact hJ _ _ _ Sub.rfl)
  case n0 => rfl
  refine si_seq ?_
  refine si_seq ?_
  refine' si_region hXL (fn := Try.f89) rfl ?n1 (fun ρ W J hJ => ?h1) ?k1
  case h1 =>
    refine sx hXL [] 400 rfl (by (simp [conjP, addOP])) ?_
    (exact hJ _ _ _ Sub.rfl)
  case n1 => rfl
  refine si_block ?_
  refine si_over (fng := Try.f86) rfl rfl rfl rfl rfl rfl fun ρ a W1 y b bs1 fid Qi hts hbl hbs hend => ?_
  refine si_seq ?_
  refine si_ops ?_
  refine si_split 1 ?_
  refine' si_ops_run hXL (fn := Try.f86) rfl ?n5 (fun ρ W J hJ => ?h5) ?k5
  case h5 =>
    refine sx hXL [] 400 rfl (by (simp [conjP, addOP])) ?_
    (exact hJ _ _ _ Sub.rfl)
  case n5 => rfl
  refine si_ops_rangeM (ks := ks) rfl rfl rfl rfl ⟨_, _, (hXL.te 109).map _ _ rfl⟩ rfl (by decide) ?_
  refine si_ops_nil ?_
  refine si_block ?_
  refine si_told hXL (T1 := mqT y) (H1 := mqH ks [] []) [0, 1, 2, 60, 3] rfl rfl rfl rfl clM clM clMk clMk ?_
  refine si_loop (fun _ : List Nat × List Int => mqT y) (fun x => mqH ks x.2 x.1) (fun x => SeenM ks x.1 x.2) (fun x => lfM (List.range ks.length) x.1) ([], []) SeenM.nil ?_
  rintro ⟨seen, l⟩ hS I back
  have hS : SeenM ks seen l := hS
  dsimp only [mqT, mqH] at back ⊢
  refine si_seq ?_
  refine si_ops ?_
  refine si_ops_next (m := 1) (ks := ks) (seen := seen) rfl rfl rfl rfl rfl rfl (by decide) (fun hall => ?e1) (fun i p hp hns => ?_)
  case e1 =>
    refine si_split 1 ?_
    refine' si_ops_run hXL (fn := Try.f86) rfl ?n6 (fun ρ W J hJ => ?h6) ?k6
    case h6 =>
      refine sx hXL [] 400 rfl (by (simp [-List.getD_eq_getElem?_getD, -List.length_eq_zero_iff, conjP, addOP])) ?_
      (exact hJ _ _ _ Sub.rfl)
    case n6 => exact newOwn_same _
    refine si_ops_nil ?_
    refine si_seq ?_
    refine si_ff rfl ?_
    refine si_exit rfl ?_
    have hperm := hS.fin hall
    refine (hend _ _ _ (by simp [recL]) (by cases opL l <;> rfl) (fun b' hb' => ?af)).1
    case af =>
      show SI _ _ _ _ _ _ _ _ _ (.blk _ :: _) _ _
      refine si_blk ?_
      refine si_seq ?_
      refine' si_region hXL (fn := Try.f89) rfl ?nY (fun ρ W J hJ => ?hY) ?kY
      case hY =>
        refine sx hXL [] 400 rfl (by (simp [-List.getD_eq_getElem?_getD, -List.length_eq_zero_iff, conjP, addOP])) ?_
        (exact hJ _ _ _ Sub.rfl)
      case nY => exact newOwn_same _
      refine si_mark_ret hXL hb' ?_
      refine ss_weak hXL (V0 := slV (opL l) 2) (L0 := [mbE, .obj (.mp ks), slE (opL l) .i64 3]) ⟨l, hperm, rfl, rfl⟩ ?_
      exact ss_end0 hXL [0, 1, 3] rfl trivial rfl rfl rfl rfl clM clM clMk clMk
  have hnx := hS.next hp hns
  have bk := back (seen ++ [i], l ++ [p.1]) hnx.1 hnx.2
  clear back
  have hll := hS.len
  have hl9 : l.length + 1 ≤ 4294967296 := by omega
  refine si_split 1 ?_
  refine' si_ops_run hXL (fn := Try.f86) rfl ?n7 (fun ρ W J hJ => ?h7) ?k7
  case h7 =>
    refine sx hXL [] 400 rfl (by (simp [-List.getD_eq_getElem?_getD, -List.length_eq_zero_iff, conjP, addOP])) ?_
    (exact hJ _ _ _ Sub.rfl)
  case n7 => exact newOwn_same _
  refine si_ops_nil ?_
  refine si_seq ?_
  refine si_tt rfl ?_
  refine si_skip ?_
  refine si_block ?_
  refine si_seq ?_
  refine si_ops ?_
  refine si_ops_entry (m := 1) (ks := ks) (seen := seen) (p := p) (i := i) rfl rfl rfl rfl rfl hp rfl (by decide) ?_
  refine si_split 2 ?_
  refine' si_ops_run hXL (fn := Try.f86) rfl ?n8 (fun ρ W J hJ => ?h8) ?k8
  case h8 =>
    refine sx hXL [] 400 rfl (by (simp [-List.getD_eq_getElem?_getD, -List.length_eq_zero_iff, conjP, addOP])) ?_
    (exact hJ _ _ _ Sub.rfl)
  case n8 => exact newOwn_same _
  refine si_ops_nil ?_
  refine si_seq ?_
  refine si_ops ?_
  refine si_split 2 ?_
  refine' si_ops_run hXL (fn := Try.f86) rfl ?n9 (fun ρ W J hJ => ?h9) ?k9
  case h9 =>
    refine sx hXL [] 400 rfl (by (simp [-List.getD_eq_getElem?_getD, -List.length_eq_zero_iff, conjP, addOP])) ?_
    (exact hJ _ _ _ Sub.rfl)
  case n9 => exact newOwn_same _
  refine si_yield (c := _) (x := .tmp 10) (d := 12) (nto := Try.f89.ntmps) (To := _) rfl rfl rfl rfl rfl rfl rfl rfl (by decide) (.inr hbs) (by simp; exact hbl) rfl ⟨hts.val, hts.num, rfl⟩ ?_
  intro ρ2 Qr J hbegin hgo hout
  refine' si_region hXL (fn := Try.f89) rfl ?n10 (fun ρ W J hJ => ?h10) ?k10
  case h10 =>
    refine sx hXL [] 400 rfl (by (simp [-List.getD_eq_getElem?_getD, -List.length_eq_zero_iff, conjP, addOP])) ?_
    (exact hJ _ _ _ Sub.rfl)
  case n10 => exact newOwn_same _
  refine hbegin _ _ ?_
  refine si_block ?_
  have eo := opL_app l p.1
  rw [eo] at bk
  rcases ho : opL l with _ | g
  · have hl0 : l = [] := by unfold opL at ho; split at ho; assumption; cases ho
    subst hl0
    refine' si_region hXL (fn := Try.f89) rfl ?nAn (fun ρ W J hJ => ?hAn) ?kAn
    case hAn =>
      refine sx hXL [] 400 rfl (by (simp [-List.getD_eq_getElem?_getD, -List.length_eq_zero_iff, conjP, addOP, hl9])) ?_
      (exact hJ _ _ _ Sub.rfl)
    case nAn => rfl
    refine si_blk ?_
    refine hgo _ _ ?_
    refine si_split 1 ?_
    refine' si_ops_run hXL (fn := Try.f86) rfl ?nBn (fun ρ W J hJ => ?hBn) ?kBn
    case hBn =>
      refine sx hXL [] 400 rfl (by (simp [-List.getD_eq_getElem?_getD, -List.length_eq_zero_iff, conjP, addOP])) ?_
      (exact hJ _ _ _ Sub.rfl)
    case nBn => rfl
    refine si_ops_nil ?_
    refine si_ff rfl ?_
    refine si_skip ?_
    refine si_blk ?_
    refine si_told hXL (T1 := _) (H1 := _) [0, 1, 2, 6, 4] rfl rfl rfl rfl clM clM clMk clMk bk
  · have hg : g = l := by unfold opL at ho; split at ho; cases ho; exact (Option.some.inj ho).symm
    subst hg
    simp only [ho] at hgo
    refine' si_region hXL (fn := Try.f89) rfl ?nAs (fun ρ W J hJ => ?hAs) ?kAs
    case hAs =>
      refine sx hXL [] 400 rfl (by (simp [-List.getD_eq_getElem?_getD, -List.length_eq_zero_iff, conjP, addOP, hl9])) ?_
      (exact hJ _ _ _ Sub.rfl)
    case nAs => rfl
    refine si_blk ?_
    refine hgo _ _ ?_
    refine si_split 1 ?_
    refine' si_ops_run hXL (fn := Try.f86) rfl ?nBs (fun ρ W J hJ => ?hBs) ?kBs
    case hBs =>
      refine sx hXL [] 400 rfl (by (simp [-List.getD_eq_getElem?_getD, -List.length_eq_zero_iff, conjP, addOP])) ?_
      (exact hJ _ _ _ Sub.rfl)
    case nBs => rfl
    refine si_ops_nil ?_
    refine si_ff rfl ?_
    refine si_skip ?_
    refine si_blk ?_
    refine si_told hXL (T1 := _) (H1 := _) [0, 1, 2, 6, 4] rfl rfl rfl rfl clM clM clMk clMk bk
set_option maxHeartbeats 4000000 in
theorem collM_fn (ks : List (Int × Int)) (hk : ks.length < 1000) : Gives Try.prog 84 [keysF] [mbE, .obj (.mp ks)] (KeysR ks) := by
  have hX := hXMq
  refine gives_x hX (fn := Try.f84) rfl rfl rfl rfl fun ρ w => ?_
  refine sx hX [] 6 rfl trivial ?_
  refine ss_sw hX (sw_inR rfl rfl rfl rfl rfl rfl (aseqM_fn ks hk) fun V L ⟨l, hp, hV, hL⟩ => ⟨_, rfl, sw_ss hX (cs := []) ?_⟩)
  subst hV; subst hL
  refine sx hX [] 400 rfl trivial ?_
  exact ss_ret hX rfl rfl trivial ⟨l, hp, rfl, rfl⟩
set_option maxHeartbeats 4000000 in
/-- slices.Sorted of them. -/
theorem sortedM_fn (ks : List (Int × Int)) (hk : ks.length ≤ 12) : Gives Try.prog 66 [keysF] [mbE, .obj (.mp ks)] (Is (slV (opL (srt (ks.map (·.1)))) 2) [mbE, .obj (.mp ks), slE (opL (srt (ks.map (·.1)))) .i64 3]) := by
  have hX := hXMs
  refine gives_x hX (fn := Try.f66) rfl rfl rfl rfl fun ρ w => ?_
  refine sx hX [] 6 rfl trivial ?_
  refine ss_sw hX (sw_inR rfl rfl rfl rfl rfl rfl (collM_fn ks (by omega)) fun V L ⟨l, hp, hV, hL⟩ => ⟨_, rfl, sw_ss hX (cs := []) ?_⟩)
  subst hV; subst hL
  have hs : srt (ks.map (·.1)) = srt l := (srt_perm_eq hp).symm
  have hl : l.length = ks.length := by rw [hp.length_eq, List.length_map]
  rw [hs]
  by_cases h0 : l = []
  · subst h0
    have e1 : opL (srt []) = none := rfl
    rw [e1]
    dsimp only [slV, slE]
    refine sx hX [] 400 rfl trivial ?_
    exact ss_end hX [0, 1, 2] rfl rfl trivial rfl rfl rfl rfl clM clM clMk clMk
  · have h1 : 0 < l.length := List.length_pos_iff.2 h0
    have h2 : ¬ srt l = [] := fun e => by have := srt_len l; rw [e] at this; simp at this; omega
    rw [opL_some h0, opL_some h2]
    have e2 := srt_len l
    have e3 : l.length ≤ 12 := by omega
    dsimp only [slV, slE]
    refine sx hX [] 400 rfl (by simp [conjP, h1, e3]) ?_
    exact ss_end hX [0, 1, 2] rfl rfl trivial rfl rfl rfl rfl (by rw [e2]; exact sim_refl _) clM clMk clMk
end Go.Proofs.Ytfdkaakllceebaa
