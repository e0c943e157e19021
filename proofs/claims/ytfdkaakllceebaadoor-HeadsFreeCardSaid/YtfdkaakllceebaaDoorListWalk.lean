/- heads.List: what it tells, of a right config's words. -/
import Derived.Test.YtfdkaakllceebaaDoorHeadSteps
import Derived.Test.YtfdkaakllceebaaDoorHyc
namespace Go.Proofs.YtfdkaakllceebaaDoor
open Go Go.Hx
set_option maxRecDepth 8000
set_option maxHeartbeats 4000000
/-- How many blocks a class has. -/
def cntV (c a5 a7 : Int) : Int := if c = 0 then a5 else a7
/-- What a list tells: its blocks, or a code and a word. -/
inductive HR | ok (o : Option (List Int)) | bad (e p : Int) | code (e : Int)
/-- The list from a word on. -/
def hlF (a0 a1 a2 a4 a5 a6 a7 c : Int) (W : List Int) : Nat → Int → Option (List Int) → HR
  | 0, _, o => .ok o
  | n + 1, p, o => if W.getD p.toNat 0 % 4294967296 = 0 then .ok o
    else if ¬ classV a5 a7 (W.getD p.toNat 0 % 4294967296) = c then .bad 10 p
    else if ((lst o).length : Int) = cntV c a5 a7 then .bad 16 p
    else hlF a0 a1 a2 a4 a5 a6 a7 c W n (blockV a0 a1 a2 a4 a5 a6 a7 (W.getD p.toNat 0 % 4294967296)) (some (lst o ++ [W.getD p.toNat 0 % 4294967296]))
/-- It is whole: a right config's list ends in thirteen steps. -/
abbrev hlR (a0 a1 a2 a4 a5 a6 a7 c : Int) (W : List Int) : HR := hlF a0 a1 a2 a4 a5 a6 a7 c W 13 (3 + c) none
variable {a0 a1 a2 a3 a4 a5 a6 a7 a8 c : Int} {W : List Int}
theorem hl_end {n : Nat} {p : Int} {o : Option (List Int)} (h : W.getD p.toNat 0 % 4294967296 = 0) : hlF a0 a1 a2 a4 a5 a6 a7 c W (n + 1) p o = .ok o := by rw [hlF, if_pos h]
theorem hl_form {n : Nat} {p : Int} {o : Option (List Int)} (h : ¬ W.getD p.toNat 0 % 4294967296 = 0) (h2 : ¬ classV a5 a7 (W.getD p.toNat 0 % 4294967296) = c) : hlF a0 a1 a2 a4 a5 a6 a7 c W (n + 1) p o = .bad 10 p := by rw [hlF, if_neg h, if_pos h2]
theorem hl_over {n : Nat} {p : Int} {o : Option (List Int)} (h : ¬ W.getD p.toNat 0 % 4294967296 = 0) (h2 : classV a5 a7 (W.getD p.toNat 0 % 4294967296) = c) (h3 : ((lst o).length : Int) = cntV c a5 a7) : hlF a0 a1 a2 a4 a5 a6 a7 c W (n + 1) p o = .bad 16 p := by rw [hlF, if_neg h, if_neg (fun q => q h2), if_pos h3]
theorem hl_go {n : Nat} {p : Int} {o : Option (List Int)} (h : ¬ W.getD p.toNat 0 % 4294967296 = 0) (h2 : classV a5 a7 (W.getD p.toNat 0 % 4294967296) = c) (h3 : ¬ ((lst o).length : Int) = cntV c a5 a7) : hlF a0 a1 a2 a4 a5 a6 a7 c W (n + 1) p o = hlF a0 a1 a2 a4 a5 a6 a7 c W n (blockV a0 a1 a2 a4 a5 a6 a7 (W.getD p.toNat 0 % 4294967296)) (some (lst o ++ [W.getD p.toNat 0 % 4294967296])) := by rw [hlF, if_neg h, if_neg (fun q => q h2), if_neg h3]
/-- A block of a class is there. -/
theorem class_there {b : Int} (h : classV a5 a7 b = c) (hc : 0 ≤ c) : 1 ≤ b ∧ b ≤ a5 + a7 := by
  unfold classV at h
  split at h
  · assumption
  · omega
def ctL : Nat → Option Hx.Spec
  | 44 => some (pureS rightS)
  | 31 => some (pureS sizeS)
  | 47 => some (pureS pHeadS)
  | 18 => some (pureS hBlockS)
  | 48 => some (pureS (placeS blockF))
  | 33 => some (pureS (placeS classF))
  | _ => none
theorem ctL_ok : ∀ f s args H ob V L, ctL f = some s → s args H = some (ob, V, L) → AllP ob → Gives Tryd.prog f args H (Is V L) := by
  intro f s args H ob V L h hs ho
  unfold ctL at h
  split at h
  · simp at h; subst h; exact pureS_ok ⟨_, hTE⟩ (rightS_ok right44) hs ho
  · simp at h; subst h; exact pureS_ok ⟨_, hTE⟩ (sizeS_ok) hs ho
  · simp at h; subst h; exact pureS_ok ⟨_, hTE⟩ (pHeadS_ok) hs ho
  · simp at h; subst h; exact pureS_ok ⟨_, hTE⟩ (hBlockS_ok) hs ho
  · simp at h; subst h; exact pureS_ok ⟨_, hTE⟩ (placeS_ok (v := blockF) block_fn) hs ho
  · simp at h; subst h; exact pureS_ok ⟨_, hTE⟩ (placeS_ok (v := classF) class_fn) hs ho
  · simp at h
noncomputable def XL : Tabs := tabs tr ft xt (fun _ => none) ctL 20
theorem hXL : TOk Tryd.prog (XL) := ⟨hTE, hFT, ctL_ok, hXT, fun t ks h => by simp [XL, tabs] at h, mixed⟩
abbrev liT (l : Nat) (at' : Int) : List (Nat × SV) := [(0, .raw (.func (.yield l) #[] #[])), (1, .ptr 8 0), (2, .ptr 7 0), (3, .ptr 6 0), (5, .int .i64 at')]
abbrev c9O (a0 a1 a2 a3 a4 a5 a6 a7 a8 : Int) : HE := .obj (.cells [.int .i64 a0, .int .i64 a1, .int .i64 a2, .int .i64 a3, .int .i64 a4, .int .i64 a5, .int .i64 a6, .int .i64 a7, .int .i64 a8] 29)
abbrev liH (a0 a1 a2 a3 a4 a5 a6 a7 a8 c_ls : Int) (W : List Int) (o : Option (List Int)) : List HE := [.obj (.ints .u64 W 43), c9O a0 a1 a2 a3 a4 a5 a6 a7 a8, .obj (.cells [.int .i64 c_ls] 3), c9O a0 a1 a2 a3 a4 a5 a6 a7 a8, .obj (.cells [slV o 9] 33), .obj (.cells [.niliface] 35), c9O a0 a1 a2 a3 a4 a5 a6 a7 a8, .obj (.cells [.slice 0 0 W.length W.length] 31), .obj (.cells [.int .i64 c_ls] 3), slE o .i64 3]
abbrev atO (e p : Int) : HE := .obj (.cells [.iface 38 (.int .i64 e), .int .i64 p] 95)
/-- What heads.List tells. -/
def hlV : HR → SV
  | .ok none => .tup [.nilslice, .niliface]
  | .ok (some l) => .tup [.sbuf 1 1 0 l.length, .niliface]
  | .bad _ _ => .tup [.nilslice, .iface 93 (.ptr 1 0)]
  | .code e => .tup [.nilslice, .iface 38 (.int .i64 e)]
def hlL (o : SO) : HR → List HE
  | .ok none => [.obj o]
  | .ok (some l) => [.obj o, .obj (.buf .i64 l 1 3)]
  | .bad e p => [.obj o, atO e p]
  | .code _ => [.obj o]
/-- What is told of any config, class, and number of words. -/
def hsR (a0 a1 a2 a3 a4 a5 a6 a7 a8 c : Int) (n : Nat) (W : List Int) : HR :=
  if rightB a0 a1 a2 a3 a4 a5 a6 a7 a8 = true ∧ 0 ≤ c ∧ c ≤ 1 then (if (n : Int) = sizeV a0 a1 a2 a4 a5 a6 a7 then hlR a0 a1 a2 a4 a5 a6 a7 c W else .code 23) else .code 1

set_option maxHeartbeats 8000000 in
theorem hl_fn0 (hr : rightB a0 a1 a2 a3 a4 a5 a6 a7 a8 = true) (hW : (W.length : Int) = sizeV a0 a1 a2 a4 a5 a6 a7) (hWn : ∀ x ∈ W, 0 ≤ x) (hWx : ∀ x ∈ W, x < 18446744073709551616) : Gives Tryd.prog 11 [C9 a0 a1 a2 a3 a4 a5 a6 a7 a8, .slice 0 0 W.length W.length, .int .i64 0] [.obj (.ints .u64 W 43)] (Is (hlV (hlR a0 a1 a2 a4 a5 a6 a7 0 W)) (hlL (.ints .u64 W 43) (hlR a0 a1 a2 a4 a5 a6 a7 0 W))) := by
  obtain ⟨z0, z1⟩ := size_bd hr
  have hcn : cntV 0 a5 a7 ≤ 12 ∧ 0 ≤ cntV 0 a5 a7 := by rw [right_iff] at hr; simp [cntV]; omega
  generalize hR : hlR a0 a1 a2 a4 a5 a6 a7 0 W = res
  refine si_fn (fn := Tryd.f11) rfl rfl rfl fun ρ w => ?_
  refine si_seq ?_
  refine' si_region hXL (fn := Tryd.f11) rfl ?n0 (fun ρ W J hJ => ?h0) ?k0
  case h0 =>
    refine sx hXL [] 400 rfl (by (simp [conjP, addOP])) ?_
    (exact hJ _ _ _ Sub.rfl)
  case n0 => rfl
  refine si_scope noGoto_fn ?_
  refine si_seq ?_
  refine si_block ?_
  refine si_seq ?_
  refine' si_region hXL (fn := Tryd.f11) rfl ?n1 (fun ρ W J hJ => ?h1) ?k1
  case h1 =>
    refine sx hXL [] 400 rfl (by (simp [conjP, addOP])) ?_
    refine sx hXL [.F] 400 rfl (by (simp [conjP, addOP, hr])) ?_
    refine sx hXL [.F] 400 rfl (by (simp [conjP, addOP])) ?_
    (exact hJ _ _ _ Sub.rfl)
  case n1 => rfl
  refine si_cond rfl (fun hb => ?_) (fun hb => ?_)
  · simp at hb
  refine si_seq ?_
  refine' si_region hXL (fn := Tryd.f11) rfl ?n2 (fun ρ W J hJ => ?h2) ?k2
  case h2 =>
    refine sx hXL [] 400 rfl (by (simp [conjP, addOP])) ?_
    (exact hJ _ _ _ Sub.rfl)
  case n2 => rfl
  refine si_cond rfl (fun hb => ?_) (fun hb => ?_)
  · simp [hW, hr] at hb
  refine si_skip ?_
  refine si_blk ?_
  refine si_seq ?_
  refine' si_region hXL (fn := Tryd.f11) rfl ?n0a (fun ρ W J hJ => ?h0a) ?k0a
  case h0a =>
    refine sx hXL [] 400 rfl (by (simp [conjP, addOP])) ?_
    (exact hJ _ _ _ Sub.rfl)
  case n0a => rfl
  refine si_seq ?_
  refine' si_region hXL (fn := Tryd.f11) rfl ?n0b (fun ρ W J hJ => ?h0b) ?k0b
  case h0b =>
    refine sx hXL [] 400 rfl (by (simp [conjP, addOP])) ?_
    (exact hJ _ _ _ Sub.rfl)
  case n0b => rfl
  refine si_seq ?_
  refine si_label ?_
  refine si_seq ?_
  refine si_seq ?_
  refine' si_region hXL (fn := Tryd.f11) rfl ?n3 (fun ρ W J hJ => ?h3) ?k3
  case h3 =>
    refine sx hXL [] 400 rfl (by (simp [conjP, addOP])) ?_
    (exact hJ _ _ _ Sub.rfl)
  case n3 => rfl
  refine si_block ?_
  refine si_over (fng := Tryd.f46) rfl rfl rfl rfl rfl rfl fun ρ a W1 l b bs1 fid Qi hts hbl hbs hend => ?_
  refine si_seq ?_
  refine' si_region hXL (fn := Tryd.f46) rfl ?n5 (fun ρ W J hJ => ?h5) ?k5
  case h5 =>
    refine sx hXL [] 400 rfl (by (simp [conjP])) ?_
    (exact hJ _ _ _ Sub.rfl)
  case n5 => rfl
  refine si_block ?_
  refine si_told hXL (T1 := liT l (3 + 0)) (H1 := liH a0 a1 a2 a3 a4 a5 a6 a7 a8 0 W none) [0, 1, 2, 3, 4, 5, 6, 7, 8, 9] rfl rfl rfl rfl (by (repeat' (first | exact rfl | exact trivial | exact sim_refl _ | refine And.intro ?_ ?_))) (by (repeat' (first | exact rfl | exact trivial | exact sim_refl _ | refine And.intro ?_ ?_))) (by (repeat' (first | exact rfl | exact trivial | exact sim_refl _ | refine And.intro ?_ ?_))) (by (repeat' (first | exact rfl | exact trivial | exact sim_refl _ | refine And.intro ?_ ?_))) ?_
  refine si_loop (fun x : Int × Option (List Int) => liT l x.1) (fun x => liH a0 a1 a2 a3 a4 a5 a6 a7 a8 0 W x.2) (fun x => 0 ≤ x.1 ∧ x.1 < W.length ∧ ((lst x.2).length : Int) ≤ cntV 0 a5 a7 ∧ hlF a0 a1 a2 a4 a5 a6 a7 0 W (13 - (lst x.2).length) x.1 x.2 = res) (fun x => 100 - (lst x.2).length) (3 + 0, none) ⟨by decide, by dsimp only; omega, by simp [lst]; omega, hR⟩ ?_
  rintro ⟨at', o⟩ ⟨i1, i2, i3, e3⟩ I back
  dsimp only at i1 i2 i3 e3
  have e4 : 13 - (lst o).length = 12 - (lst o).length + 1 := by omega
  rw [e4] at e3
  have hm : W.getD at'.toNat 0 ∈ W := by rw [List.getD_eq_getElem?_getD, List.getElem?_eq_getElem (by omega : at'.toNat < W.length)]; simp
  have v0 := hWn _ hm
  have v1 := hWx _ hm
  refine si_seq ?_
  refine si_seq ?_
  refine' si_region hXL (fn := Tryd.f46) rfl ?n6 (fun ρ W J hJ => ?h6) ?k6
  case h6 =>
    refine sx hXL [] 400 rfl (by (simp [conjP, addOP])) ?_
    (exact hJ _ _ _ Sub.rfl)
  case n6 => cases o <;> rfl
  refine si_cond rfl (fun hb => ?t1) (fun hb => ?f1)
  case f1 => simp at hb; omega
  refine si_skip ?_
  refine si_block ?_
  refine si_seq ?_
  refine' si_region hXL (fn := Tryd.f46) rfl ?n7 (fun ρ W J hJ => ?h7) ?k7
  case h7 =>
    refine sx hXL [] 400 rfl (by (simp [-List.getD_eq_getElem?_getD, -List.length_eq_zero_iff, conjP, i1, i2, v0, v1])) ?_
    (exact hJ _ _ _ Sub.rfl)
  case n7 => cases o <;> rfl
  refine si_seq ?_
  refine si_seq ?_
  by_cases hz : W.getD at'.toNat 0 % 4294967296 = 0
  · rw [hl_end hz] at e3
    subst e3
    refine' si_region hXL (fn := Tryd.f46) rfl ?n8 (fun ρ W J hJ => ?h8) ?k8
    case h8 =>
      refine sx hXL [] 400 rfl (by (simp [conjP, addOP])) ?_
      refine sx hXL [.T] 400 rfl (by (simp [-List.getD_eq_getElem?_getD, -List.length_eq_zero_iff, conjP, addOP, hz])) ?_
      (exact hJ _ _ _ Sub.rfl)
    case n8 => cases o <;> rfl
    refine si_tt rfl ?_
    refine (hend _ _ _ (by simp [recL]) (by cases o <;> rfl) (fun b' hb' => ?af)).2 _
    case af =>
      show SI _ _ _ _ _ _ _ _ _ (.blk _ :: _) _ _
      refine si_blk ?_
      refine si_seq ?_
      refine si_seq ?_
      refine' si_region hXL (fn := Tryd.f11) rfl ?nY (fun ρ W J hJ => ?hY) ?kY
      case hY =>
        refine sx hXL [] 400 rfl (by (simp [conjP, addOP])) ?_
        (exact hJ _ _ _ Sub.rfl)
      case nY => cases o <;> rfl
      refine si_ff rfl ?_
      refine si_skip ?_
      refine si_seq ?_
      refine' si_region hXL (fn := Tryd.f11) rfl ?nZ (fun ρ W J hJ => ?hZ) ?kZ
      case hZ =>
        refine sx hXL [] 400 rfl (by (simp [conjP, addOP])) ?_
        (exact hJ _ _ _ Sub.rfl)
      case nZ => cases o <;> rfl
      refine si_mark_ret hXL hb' ?_
      cases o with
      | none => exact ss_end0 hXL [0] rfl trivial rfl rfl rfl rfl (by (repeat' (first | exact rfl | exact trivial | exact sim_refl _ | refine And.intro ?_ ?_))) (by (repeat' (first | exact rfl | exact trivial | exact sim_refl _ | refine And.intro ?_ ?_))) (by (repeat' (first | exact rfl | exact trivial | exact sim_refl _ | refine And.intro ?_ ?_))) (by (repeat' (first | exact rfl | exact trivial | exact sim_refl _ | refine And.intro ?_ ?_)))
      | some g => exact ss_end0 hXL [0, 9] rfl trivial rfl rfl rfl rfl (by (repeat' (first | exact rfl | exact trivial | exact sim_refl _ | refine And.intro ?_ ?_))) (by (repeat' (first | exact rfl | exact trivial | exact sim_refl _ | refine And.intro ?_ ?_))) (by (repeat' (first | exact rfl | exact trivial | exact sim_refl _ | refine And.intro ?_ ?_))) (by (repeat' (first | exact rfl | exact trivial | exact sim_refl _ | refine And.intro ?_ ?_)))
  · refine si_ops ?_
    refine si_split 6 ?_
    refine' si_ops_run hXL (fn := Tryd.f46) rfl ?n9 (fun ρ W J hJ => ?h9) ?k9
    case h9 =>
      refine sx hXL [] 400 rfl (by (simp [conjP, addOP])) ?_
      refine sx hXL [.F] 400 rfl (by (simp [-List.getD_eq_getElem?_getD, -List.length_eq_zero_iff, conjP, addOP, hz])) ?_
      (exact hJ _ _ _ Sub.rfl)
    case n9 => cases o <;> rfl
    refine si_yield (c := _) (x := .tmp 19) (d := 22) (nto := Tryd.f11.ntmps) (To := _) rfl rfl rfl rfl rfl rfl rfl rfl (by decide) (.inr hbs) (by simp; exact hbl) rfl ⟨hts.val, hts.num, rfl⟩ ?_
    intro ρ2 Qr J hbegin hgo hout
    refine si_seq ?_
    refine' si_region hXL (fn := Tryd.f11) rfl ?n10 (fun ρ W J hJ => ?h10) ?k10
    case h10 =>
      refine sx hXL [] 400 rfl (by (simp [conjP, addOP])) ?_
      (exact hJ _ _ _ Sub.rfl)
    case n10 => cases o <;> rfl
    refine' si_region hXL (fn := Tryd.f11) rfl ?n11 (fun ρ W J hJ => ?h11) ?k11
    case h11 =>
      refine sx hXL [] 400 rfl (by (simp [conjP, addOP])) ?_
      (exact hJ _ _ _ Sub.rfl)
    case n11 => cases o <;> rfl
    refine hbegin _ _ ?_
    refine si_block ?_
    refine si_seq ?_
    refine si_block ?_
    refine si_seq ?_
    refine' si_any hXL Tryd.f11 400 [] rfl ?n12 rfl ?o12 ?k12
    case o12 => simp [conjP, hr]; omega
    case n12 => cases o <;> rfl
    refine si_cond rfl (fun hc => ?_) (fun hc => ?_)
    · have e5 := hl_form (a0 := a0) (a1 := a1) (a2 := a2) (a4 := a4) (a5 := a5) (a6 := a6) (a7 := a7) (c := 0) (W := W) (n := 12 - (lst o).length) (p := at') (o := o) hz (by simpa [classF] using hc)
      rw [e3] at e5
      subst e5
      refine si_seq ?_
      refine' si_region hXL (fn := Tryd.f11) rfl ?n13 (fun ρ W J hJ => ?h13) ?k13
      case h13 =>
        refine sx hXL [] 400 rfl (by (simp [conjP])) ?_
        refine sx hXL [.F] 400 rfl (by (simp [conjP, addOP])) ?_
        (exact hJ _ _ _ Sub.rfl)
      case n13 => cases o <;> rfl
      refine hout _ _ _ _ rfl ?_
      refine si_split 2 ?_
      refine' si_ops_run hXL (fn := Tryd.f46) rfl ?n14 (fun ρ W J hJ => ?h14) ?k14
      case h14 =>
        refine sx hXL [] 400 rfl (by (simp [conjP, addOP])) ?_
        (exact hJ _ _ _ Sub.rfl)
      case n14 => cases o <;> rfl
      refine si_ops_nil ?_
      refine si_tt rfl ?_
      refine (hend _ _ _ (by simp) (by cases o <;> rfl) (fun b' hb' => ?afc)).2 _
      case afc =>
        show SI _ _ _ _ _ _ _ _ _ (.code (.exit _) :: _) _ _
        refine si_exit rfl ?_
        refine si_seq ?_
        refine si_seq ?_
        refine' si_region hXL (fn := Tryd.f11) rfl ?nGc (fun ρ W J hJ => ?hGc) ?kGc
        case hGc =>
          refine sx hXL [] 400 rfl (by (simp [conjP, addOP])) ?_
          (exact hJ _ _ _ Sub.rfl)
        case nGc => cases o <;> rfl
        refine si_tt rfl ?_
        refine si_seq ?_
        refine' si_any hXL Tryd.f11 400 [] rfl ?nHc rfl ?oHc ?kHc
        case oHc => simp [conjP]
        case nHc => cases o <;> rfl
        refine si_mark_ret hXL hb' ?_
        cases o <;> exact ss_end0 hXL [0, 10] rfl trivial rfl rfl rfl rfl (by (repeat' (first | exact rfl | exact trivial | exact sim_refl _ | refine And.intro ?_ ?_))) (by (repeat' (first | exact rfl | exact trivial | exact sim_refl _ | refine And.intro ?_ ?_))) (by (repeat' (first | exact rfl | exact trivial | exact sim_refl _ | refine And.intro ?_ ?_))) (by (repeat' (first | exact rfl | exact trivial | exact sim_refl _ | refine And.intro ?_ ?_)))
    cases o with
    | none =>
      refine si_seq ?_
      refine' si_any hXL Tryd.f11 400 [] rfl ?nAn rfl ?oAn ?kAn
      case oAn => simp [conjP]
      case nAn => rfl
      refine si_cond rfl (fun hd => ?_) (fun hd => ?_)
      · have e5 := hl_over (a0 := a0) (a1 := a1) (a2 := a2) (a4 := a4) (a5 := a5) (a6 := a6) (a7 := a7) (c := 0) (W := W) (n := 12 - (lst (none : Option (List Int))).length) (p := at') (o := none) hz (by simpa [classF] using hc) (by simpa [lst, cntV] using hd)
        rw [e3] at e5
        subst e5
        refine si_seq ?_
        refine' si_region hXL (fn := Tryd.f11) rfl ?nBn (fun ρ W J hJ => ?hBn) ?kBn
        case hBn =>
          refine sx hXL [] 400 rfl (by (simp [conjP])) ?_
          refine sx hXL [.F] 400 rfl (by (simp [conjP, addOP])) ?_
          (exact hJ _ _ _ Sub.rfl)
        case nBn => rfl
        refine hout _ _ _ _ rfl ?_
        refine si_split 2 ?_
        refine' si_ops_run hXL (fn := Tryd.f46) rfl ?nCn (fun ρ W J hJ => ?hCn) ?kCn
        case hCn =>
          refine sx hXL [] 400 rfl (by (simp [conjP, addOP])) ?_
          (exact hJ _ _ _ Sub.rfl)
        case nCn => rfl
        refine si_ops_nil ?_
        refine si_tt rfl ?_
        refine (hend _ _ _ (by simp) rfl (fun b' hb' => ?afn)).2 _
        case afn =>
          show SI _ _ _ _ _ _ _ _ _ (.code (.exit _) :: _) _ _
          refine si_exit rfl ?_
          refine si_seq ?_
          refine si_seq ?_
          refine' si_region hXL (fn := Tryd.f11) rfl ?nGn (fun ρ W J hJ => ?hGn) ?kGn
          case hGn =>
            refine sx hXL [] 400 rfl (by (simp [conjP, addOP])) ?_
            (exact hJ _ _ _ Sub.rfl)
          case nGn => rfl
          refine si_tt rfl ?_
          refine si_seq ?_
          refine' si_any hXL Tryd.f11 400 [] rfl ?nHn rfl ?oHn ?kHn
          case oHn => simp [conjP]
          case nHn => rfl
          refine si_mark_ret hXL hb' ?_
          exact ss_end0 hXL [0, 10] rfl trivial rfl rfl rfl rfl (by (repeat' (first | exact rfl | exact trivial | exact sim_refl _ | refine And.intro ?_ ?_))) (by (repeat' (first | exact rfl | exact trivial | exact sim_refl _ | refine And.intro ?_ ?_))) (by (repeat' (first | exact rfl | exact trivial | exact sim_refl _ | refine And.intro ?_ ?_))) (by (repeat' (first | exact rfl | exact trivial | exact sim_refl _ | refine And.intro ?_ ?_)))
      · have e5 := hl_go (a0 := a0) (a1 := a1) (a2 := a2) (a4 := a4) (a5 := a5) (a6 := a6) (a7 := a7) (c := 0) (W := W) (n := 12 - (lst (none : Option (List Int))).length) (p := at') (o := none) hz (by simpa [classF] using hc) (by simpa [lst, cntV] using hd)
        rw [e3] at e5
        have hl5 : ¬ (([] : List Int).length : Int) = cntV 0 a5 a7 := by simpa [lst, cntV] using hd
        obtain ⟨b1, b2⟩ := class_there (show classV a5 a7 (W.getD at'.toNat 0 % 4294967296) = 0 by simpa [classF] using hc) (by decide)
        obtain ⟨b3, b4⟩ := block_range hr b1 b2
        refine si_skip ?_
        refine si_blk ?_
        refine' si_region hXL (fn := Tryd.f11) rfl ?nDn (fun ρ W J hJ => ?hDn) ?kDn
        case hDn =>
          refine sx hXL [] 400 rfl (by (simp [conjP])) ?_
          (exact hJ _ _ _ Sub.rfl)
        case nDn => rfl
        refine si_blk ?_
        refine hgo _ _ ?_
        refine si_split 2 ?_
        refine' si_ops_run hXL (fn := Tryd.f46) rfl ?nEn (fun ρ W J hJ => ?hEn) ?kEn
        case hEn =>
          refine sx hXL [] 400 rfl (by (simp [conjP, addOP])) ?_
          (exact hJ _ _ _ Sub.rfl)
        case nEn => rfl
        refine si_ops_nil ?_
        refine si_ff rfl ?_
        refine si_skip ?_
        refine' si_region hXL (fn := Tryd.f46) rfl ?nFn (fun ρ W J hJ => ?hFn) ?kFn
        case hFn =>
          refine sx hXL [] 400 rfl (by (simp [conjP, hr] <;> (first | omega | ((repeat' (refine And.intro ?_ ?_)) <;> (first | omega | exact decide_eq_false (by omega) | exact decide_eq_true (by omega)))))) ?_
          (exact hJ _ _ _ Sub.rfl)
        case nFn => rfl
        refine si_blk ?_
        refine si_told hXL (T1 := liT l (blockF a0 a1 a2 a3 a4 a5 a6 a7 a8 (W.getD at'.toNat 0 % 4294967296))) (H1 := liH a0 a1 a2 a3 a4 a5 a6 a7 a8 0 W (some (([] : List Int) ++ [W.getD at'.toNat 0 % 4294967296]))) [0, 1, 2, 3, 4, 5, 6, 7, 8, 11] rfl rfl rfl rfl (by (repeat' (first | exact rfl | exact trivial | exact sim_refl _ | refine And.intro ?_ ?_))) (by (((repeat' (first | exact rfl | exact trivial | exact sim_refl _ | (simp [mulS]; done) | refine And.intro ?_ ?_)); done))) (by (repeat' (first | exact rfl | exact trivial | exact sim_refl _ | refine And.intro ?_ ?_))) (by (repeat' (first | exact rfl | exact trivial | exact sim_refl _ | refine And.intro ?_ ?_))) ?_
        refine back (_, some (([] : List Int) ++ [_])) ⟨b3, by rw [hW]; exact b4, ?_, ?_⟩ ?_
        · simp [lst] at i3 hl5 ⊢; omega
        · have e6 : 13 - (lst (some (([] : List Int) ++ [W.getD at'.toNat 0 % 4294967296]))).length = 12 - (lst (none : Option (List Int))).length := by simp [lst]
          show hlF _ _ _ _ _ _ _ _ _ (13 - (lst (some (([] : List Int) ++ [W.getD at'.toNat 0 % 4294967296]))).length) _ _ = res
          rw [e6, e5]; rfl
        · simp [lst] at i3 ⊢ <;> omega

    | some g =>
      have i4 : (g.length : Int) ≤ 12 := by simp [lst] at i3; omega
      refine si_seq ?_
      refine' si_any hXL Tryd.f11 400 [] rfl ?nAs rfl ?oAs ?kAs
      case oAs => simp [conjP]
      case nAs => rfl
      refine si_cond rfl (fun hd => ?_) (fun hd => ?_)
      · have e5 := hl_over (a0 := a0) (a1 := a1) (a2 := a2) (a4 := a4) (a5 := a5) (a6 := a6) (a7 := a7) (c := 0) (W := W) (n := 12 - (lst (some g : Option (List Int))).length) (p := at') (o := some g) hz (by simpa [classF] using hc) (by simpa [lst, cntV] using hd)
        rw [e3] at e5
        subst e5
        refine si_seq ?_
        refine' si_region hXL (fn := Tryd.f11) rfl ?nBs (fun ρ W J hJ => ?hBs) ?kBs
        case hBs =>
          refine sx hXL [] 400 rfl (by (simp [conjP])) ?_
          refine sx hXL [.F] 400 rfl (by (simp [conjP, addOP])) ?_
          (exact hJ _ _ _ Sub.rfl)
        case nBs => rfl
        refine hout _ _ _ _ rfl ?_
        refine si_split 2 ?_
        refine' si_ops_run hXL (fn := Tryd.f46) rfl ?nCs (fun ρ W J hJ => ?hCs) ?kCs
        case hCs =>
          refine sx hXL [] 400 rfl (by (simp [conjP, addOP])) ?_
          (exact hJ _ _ _ Sub.rfl)
        case nCs => rfl
        refine si_ops_nil ?_
        refine si_tt rfl ?_
        refine (hend _ _ _ (by simp) rfl (fun b' hb' => ?afs)).2 _
        case afs =>
          show SI _ _ _ _ _ _ _ _ _ (.code (.exit _) :: _) _ _
          refine si_exit rfl ?_
          refine si_seq ?_
          refine si_seq ?_
          refine' si_region hXL (fn := Tryd.f11) rfl ?nGs (fun ρ W J hJ => ?hGs) ?kGs
          case hGs =>
            refine sx hXL [] 400 rfl (by (simp [conjP, addOP])) ?_
            (exact hJ _ _ _ Sub.rfl)
          case nGs => rfl
          refine si_tt rfl ?_
          refine si_seq ?_
          refine' si_any hXL Tryd.f11 400 [] rfl ?nHs rfl ?oHs ?kHs
          case oHs => simp [conjP]
          case nHs => rfl
          refine si_mark_ret hXL hb' ?_
          exact ss_end0 hXL [0, 10] rfl trivial rfl rfl rfl rfl (by (repeat' (first | exact rfl | exact trivial | exact sim_refl _ | refine And.intro ?_ ?_))) (by (repeat' (first | exact rfl | exact trivial | exact sim_refl _ | refine And.intro ?_ ?_))) (by (repeat' (first | exact rfl | exact trivial | exact sim_refl _ | refine And.intro ?_ ?_))) (by (repeat' (first | exact rfl | exact trivial | exact sim_refl _ | refine And.intro ?_ ?_)))
      · have e5 := hl_go (a0 := a0) (a1 := a1) (a2 := a2) (a4 := a4) (a5 := a5) (a6 := a6) (a7 := a7) (c := 0) (W := W) (n := 12 - (lst (some g : Option (List Int))).length) (p := at') (o := some g) hz (by simpa [classF] using hc) (by simpa [lst, cntV] using hd)
        rw [e3] at e5
        have hl5 : ¬ (g.length : Int) = cntV 0 a5 a7 := by simpa [lst, cntV] using hd
        obtain ⟨b1, b2⟩ := class_there (show classV a5 a7 (W.getD at'.toNat 0 % 4294967296) = 0 by simpa [classF] using hc) (by decide)
        obtain ⟨b3, b4⟩ := block_range hr b1 b2
        refine si_skip ?_
        refine si_blk ?_
        refine' si_region hXL (fn := Tryd.f11) rfl ?nDs (fun ρ W J hJ => ?hDs) ?kDs
        case hDs =>
          refine sx hXL [] 400 rfl (by (simp [conjP] <;> (first | omega | ((repeat' (refine And.intro ?_ ?_)) <;> (first | omega | exact decide_eq_false (by omega) | exact decide_eq_true (by omega)))))) ?_
          (exact hJ _ _ _ Sub.rfl)
        case nDs => rfl
        refine si_blk ?_
        refine hgo _ _ ?_
        refine si_split 2 ?_
        refine' si_ops_run hXL (fn := Tryd.f46) rfl ?nEs (fun ρ W J hJ => ?hEs) ?kEs
        case hEs =>
          refine sx hXL [] 400 rfl (by (simp [conjP, addOP])) ?_
          (exact hJ _ _ _ Sub.rfl)
        case nEs => rfl
        refine si_ops_nil ?_
        refine si_ff rfl ?_
        refine si_skip ?_
        refine' si_region hXL (fn := Tryd.f46) rfl ?nFs (fun ρ W J hJ => ?hFs) ?kFs
        case hFs =>
          refine sx hXL [] 400 rfl (by (simp [conjP, hr] <;> (first | omega | ((repeat' (refine And.intro ?_ ?_)) <;> (first | omega | exact decide_eq_false (by omega) | exact decide_eq_true (by omega)))))) ?_
          (exact hJ _ _ _ Sub.rfl)
        case nFs => rfl
        refine si_blk ?_
        refine si_told hXL (T1 := liT l (blockF a0 a1 a2 a3 a4 a5 a6 a7 a8 (W.getD at'.toNat 0 % 4294967296))) (H1 := liH a0 a1 a2 a3 a4 a5 a6 a7 a8 0 W (some (g ++ [W.getD at'.toNat 0 % 4294967296]))) [0, 1, 2, 3, 4, 5, 6, 7, 8, 11] rfl rfl rfl rfl (by (repeat' (first | exact rfl | exact trivial | exact sim_refl _ | refine And.intro ?_ ?_))) (by (((repeat' (first | exact rfl | exact trivial | exact sim_refl _ | (simp [mulS]; done) | refine And.intro ?_ ?_)); done))) (by (repeat' (first | exact rfl | exact trivial | exact sim_refl _ | refine And.intro ?_ ?_))) (by (repeat' (first | exact rfl | exact trivial | exact sim_refl _ | refine And.intro ?_ ?_))) ?_
        refine back (_, some (g ++ [_])) ⟨b3, by rw [hW]; exact b4, ?_, ?_⟩ ?_
        · simp [lst] at i3 hl5 ⊢; omega
        · have e6 : 13 - (lst (some (g ++ [W.getD at'.toNat 0 % 4294967296]))).length = 12 - (lst (some g : Option (List Int))).length := by simp [lst]
          show hlF _ _ _ _ _ _ _ _ _ (13 - (lst (some (g ++ [W.getD at'.toNat 0 % 4294967296]))).length) _ _ = res
          rw [e6, e5]; rfl
        · simp [lst] at i3 ⊢ <;> omega

set_option maxHeartbeats 8000000 in
theorem hl_fn1 (hr : rightB a0 a1 a2 a3 a4 a5 a6 a7 a8 = true) (hW : (W.length : Int) = sizeV a0 a1 a2 a4 a5 a6 a7) (hWn : ∀ x ∈ W, 0 ≤ x) (hWx : ∀ x ∈ W, x < 18446744073709551616) : Gives Tryd.prog 11 [C9 a0 a1 a2 a3 a4 a5 a6 a7 a8, .slice 0 0 W.length W.length, .int .i64 1] [.obj (.ints .u64 W 43)] (Is (hlV (hlR a0 a1 a2 a4 a5 a6 a7 1 W)) (hlL (.ints .u64 W 43) (hlR a0 a1 a2 a4 a5 a6 a7 1 W))) := by
  obtain ⟨z0, z1⟩ := size_bd hr
  have hcn : cntV 1 a5 a7 ≤ 12 ∧ 0 ≤ cntV 1 a5 a7 := by rw [right_iff] at hr; simp [cntV]; omega
  generalize hR : hlR a0 a1 a2 a4 a5 a6 a7 1 W = res
  refine si_fn (fn := Tryd.f11) rfl rfl rfl fun ρ w => ?_
  refine si_seq ?_
  refine' si_region hXL (fn := Tryd.f11) rfl ?n0 (fun ρ W J hJ => ?h0) ?k0
  case h0 =>
    refine sx hXL [] 400 rfl (by (simp [conjP, addOP])) ?_
    (exact hJ _ _ _ Sub.rfl)
  case n0 => rfl
  refine si_scope noGoto_fn ?_
  refine si_seq ?_
  refine si_block ?_
  refine si_seq ?_
  refine' si_region hXL (fn := Tryd.f11) rfl ?n1 (fun ρ W J hJ => ?h1) ?k1
  case h1 =>
    refine sx hXL [] 400 rfl (by (simp [conjP, addOP])) ?_
    refine sx hXL [.F] 400 rfl (by (simp [conjP, addOP, hr])) ?_
    refine sx hXL [.F] 400 rfl (by (simp [conjP, addOP])) ?_
    (exact hJ _ _ _ Sub.rfl)
  case n1 => rfl
  refine si_cond rfl (fun hb => ?_) (fun hb => ?_)
  · simp at hb
  refine si_seq ?_
  refine' si_region hXL (fn := Tryd.f11) rfl ?n2 (fun ρ W J hJ => ?h2) ?k2
  case h2 =>
    refine sx hXL [] 400 rfl (by (simp [conjP, addOP])) ?_
    (exact hJ _ _ _ Sub.rfl)
  case n2 => rfl
  refine si_cond rfl (fun hb => ?_) (fun hb => ?_)
  · simp [hW, hr] at hb
  refine si_skip ?_
  refine si_blk ?_
  refine si_seq ?_
  refine' si_region hXL (fn := Tryd.f11) rfl ?n0a (fun ρ W J hJ => ?h0a) ?k0a
  case h0a =>
    refine sx hXL [] 400 rfl (by (simp [conjP, addOP])) ?_
    (exact hJ _ _ _ Sub.rfl)
  case n0a => rfl
  refine si_seq ?_
  refine' si_region hXL (fn := Tryd.f11) rfl ?n0b (fun ρ W J hJ => ?h0b) ?k0b
  case h0b =>
    refine sx hXL [] 400 rfl (by (simp [conjP, addOP])) ?_
    (exact hJ _ _ _ Sub.rfl)
  case n0b => rfl
  refine si_seq ?_
  refine si_label ?_
  refine si_seq ?_
  refine si_seq ?_
  refine' si_region hXL (fn := Tryd.f11) rfl ?n3 (fun ρ W J hJ => ?h3) ?k3
  case h3 =>
    refine sx hXL [] 400 rfl (by (simp [conjP, addOP])) ?_
    (exact hJ _ _ _ Sub.rfl)
  case n3 => rfl
  refine si_block ?_
  refine si_over (fng := Tryd.f46) rfl rfl rfl rfl rfl rfl fun ρ a W1 l b bs1 fid Qi hts hbl hbs hend => ?_
  refine si_seq ?_
  refine' si_region hXL (fn := Tryd.f46) rfl ?n5 (fun ρ W J hJ => ?h5) ?k5
  case h5 =>
    refine sx hXL [] 400 rfl (by (simp [conjP])) ?_
    (exact hJ _ _ _ Sub.rfl)
  case n5 => rfl
  refine si_block ?_
  refine si_told hXL (T1 := liT l (3 + 1)) (H1 := liH a0 a1 a2 a3 a4 a5 a6 a7 a8 1 W none) [0, 1, 2, 3, 4, 5, 6, 7, 8, 9] rfl rfl rfl rfl (by (repeat' (first | exact rfl | exact trivial | exact sim_refl _ | refine And.intro ?_ ?_))) (by (repeat' (first | exact rfl | exact trivial | exact sim_refl _ | refine And.intro ?_ ?_))) (by (repeat' (first | exact rfl | exact trivial | exact sim_refl _ | refine And.intro ?_ ?_))) (by (repeat' (first | exact rfl | exact trivial | exact sim_refl _ | refine And.intro ?_ ?_))) ?_
  refine si_loop (fun x : Int × Option (List Int) => liT l x.1) (fun x => liH a0 a1 a2 a3 a4 a5 a6 a7 a8 1 W x.2) (fun x => 0 ≤ x.1 ∧ x.1 < W.length ∧ ((lst x.2).length : Int) ≤ cntV 1 a5 a7 ∧ hlF a0 a1 a2 a4 a5 a6 a7 1 W (13 - (lst x.2).length) x.1 x.2 = res) (fun x => 100 - (lst x.2).length) (3 + 1, none) ⟨by decide, by dsimp only; omega, by simp [lst]; omega, hR⟩ ?_
  rintro ⟨at', o⟩ ⟨i1, i2, i3, e3⟩ I back
  dsimp only at i1 i2 i3 e3
  have e4 : 13 - (lst o).length = 12 - (lst o).length + 1 := by omega
  rw [e4] at e3
  have hm : W.getD at'.toNat 0 ∈ W := by rw [List.getD_eq_getElem?_getD, List.getElem?_eq_getElem (by omega : at'.toNat < W.length)]; simp
  have v0 := hWn _ hm
  have v1 := hWx _ hm
  refine si_seq ?_
  refine si_seq ?_
  refine' si_region hXL (fn := Tryd.f46) rfl ?n6 (fun ρ W J hJ => ?h6) ?k6
  case h6 =>
    refine sx hXL [] 400 rfl (by (simp [conjP, addOP])) ?_
    (exact hJ _ _ _ Sub.rfl)
  case n6 => cases o <;> rfl
  refine si_cond rfl (fun hb => ?t1) (fun hb => ?f1)
  case f1 => simp at hb; omega
  refine si_skip ?_
  refine si_block ?_
  refine si_seq ?_
  refine' si_region hXL (fn := Tryd.f46) rfl ?n7 (fun ρ W J hJ => ?h7) ?k7
  case h7 =>
    refine sx hXL [] 400 rfl (by (simp [-List.getD_eq_getElem?_getD, -List.length_eq_zero_iff, conjP, i1, i2, v0, v1])) ?_
    (exact hJ _ _ _ Sub.rfl)
  case n7 => cases o <;> rfl
  refine si_seq ?_
  refine si_seq ?_
  by_cases hz : W.getD at'.toNat 0 % 4294967296 = 0
  · rw [hl_end hz] at e3
    subst e3
    refine' si_region hXL (fn := Tryd.f46) rfl ?n8 (fun ρ W J hJ => ?h8) ?k8
    case h8 =>
      refine sx hXL [] 400 rfl (by (simp [conjP, addOP])) ?_
      refine sx hXL [.T] 400 rfl (by (simp [-List.getD_eq_getElem?_getD, -List.length_eq_zero_iff, conjP, addOP, hz])) ?_
      (exact hJ _ _ _ Sub.rfl)
    case n8 => cases o <;> rfl
    refine si_tt rfl ?_
    refine (hend _ _ _ (by simp [recL]) (by cases o <;> rfl) (fun b' hb' => ?af)).2 _
    case af =>
      show SI _ _ _ _ _ _ _ _ _ (.blk _ :: _) _ _
      refine si_blk ?_
      refine si_seq ?_
      refine si_seq ?_
      refine' si_region hXL (fn := Tryd.f11) rfl ?nY (fun ρ W J hJ => ?hY) ?kY
      case hY =>
        refine sx hXL [] 400 rfl (by (simp [conjP, addOP])) ?_
        (exact hJ _ _ _ Sub.rfl)
      case nY => cases o <;> rfl
      refine si_ff rfl ?_
      refine si_skip ?_
      refine si_seq ?_
      refine' si_region hXL (fn := Tryd.f11) rfl ?nZ (fun ρ W J hJ => ?hZ) ?kZ
      case hZ =>
        refine sx hXL [] 400 rfl (by (simp [conjP, addOP])) ?_
        (exact hJ _ _ _ Sub.rfl)
      case nZ => cases o <;> rfl
      refine si_mark_ret hXL hb' ?_
      cases o with
      | none => exact ss_end0 hXL [0] rfl trivial rfl rfl rfl rfl (by (repeat' (first | exact rfl | exact trivial | exact sim_refl _ | refine And.intro ?_ ?_))) (by (repeat' (first | exact rfl | exact trivial | exact sim_refl _ | refine And.intro ?_ ?_))) (by (repeat' (first | exact rfl | exact trivial | exact sim_refl _ | refine And.intro ?_ ?_))) (by (repeat' (first | exact rfl | exact trivial | exact sim_refl _ | refine And.intro ?_ ?_)))
      | some g => exact ss_end0 hXL [0, 9] rfl trivial rfl rfl rfl rfl (by (repeat' (first | exact rfl | exact trivial | exact sim_refl _ | refine And.intro ?_ ?_))) (by (repeat' (first | exact rfl | exact trivial | exact sim_refl _ | refine And.intro ?_ ?_))) (by (repeat' (first | exact rfl | exact trivial | exact sim_refl _ | refine And.intro ?_ ?_))) (by (repeat' (first | exact rfl | exact trivial | exact sim_refl _ | refine And.intro ?_ ?_)))
  · refine si_ops ?_
    refine si_split 6 ?_
    refine' si_ops_run hXL (fn := Tryd.f46) rfl ?n9 (fun ρ W J hJ => ?h9) ?k9
    case h9 =>
      refine sx hXL [] 400 rfl (by (simp [conjP, addOP])) ?_
      refine sx hXL [.F] 400 rfl (by (simp [-List.getD_eq_getElem?_getD, -List.length_eq_zero_iff, conjP, addOP, hz])) ?_
      (exact hJ _ _ _ Sub.rfl)
    case n9 => cases o <;> rfl
    refine si_yield (c := _) (x := .tmp 19) (d := 22) (nto := Tryd.f11.ntmps) (To := _) rfl rfl rfl rfl rfl rfl rfl rfl (by decide) (.inr hbs) (by simp; exact hbl) rfl ⟨hts.val, hts.num, rfl⟩ ?_
    intro ρ2 Qr J hbegin hgo hout
    refine si_seq ?_
    refine' si_region hXL (fn := Tryd.f11) rfl ?n10 (fun ρ W J hJ => ?h10) ?k10
    case h10 =>
      refine sx hXL [] 400 rfl (by (simp [conjP, addOP])) ?_
      (exact hJ _ _ _ Sub.rfl)
    case n10 => cases o <;> rfl
    refine' si_region hXL (fn := Tryd.f11) rfl ?n11 (fun ρ W J hJ => ?h11) ?k11
    case h11 =>
      refine sx hXL [] 400 rfl (by (simp [conjP, addOP])) ?_
      (exact hJ _ _ _ Sub.rfl)
    case n11 => cases o <;> rfl
    refine hbegin _ _ ?_
    refine si_block ?_
    refine si_seq ?_
    refine si_block ?_
    refine si_seq ?_
    refine' si_any hXL Tryd.f11 400 [] rfl ?n12 rfl ?o12 ?k12
    case o12 => simp [conjP, hr]; omega
    case n12 => cases o <;> rfl
    refine si_cond rfl (fun hc => ?_) (fun hc => ?_)
    · have e5 := hl_form (a0 := a0) (a1 := a1) (a2 := a2) (a4 := a4) (a5 := a5) (a6 := a6) (a7 := a7) (c := 1) (W := W) (n := 12 - (lst o).length) (p := at') (o := o) hz (by simpa [classF] using hc)
      rw [e3] at e5
      subst e5
      refine si_seq ?_
      refine' si_region hXL (fn := Tryd.f11) rfl ?n13 (fun ρ W J hJ => ?h13) ?k13
      case h13 =>
        refine sx hXL [] 400 rfl (by (simp [conjP])) ?_
        refine sx hXL [.F] 400 rfl (by (simp [conjP, addOP])) ?_
        (exact hJ _ _ _ Sub.rfl)
      case n13 => cases o <;> rfl
      refine hout _ _ _ _ rfl ?_
      refine si_split 2 ?_
      refine' si_ops_run hXL (fn := Tryd.f46) rfl ?n14 (fun ρ W J hJ => ?h14) ?k14
      case h14 =>
        refine sx hXL [] 400 rfl (by (simp [conjP, addOP])) ?_
        (exact hJ _ _ _ Sub.rfl)
      case n14 => cases o <;> rfl
      refine si_ops_nil ?_
      refine si_tt rfl ?_
      refine (hend _ _ _ (by simp) (by cases o <;> rfl) (fun b' hb' => ?afc)).2 _
      case afc =>
        show SI _ _ _ _ _ _ _ _ _ (.code (.exit _) :: _) _ _
        refine si_exit rfl ?_
        refine si_seq ?_
        refine si_seq ?_
        refine' si_region hXL (fn := Tryd.f11) rfl ?nGc (fun ρ W J hJ => ?hGc) ?kGc
        case hGc =>
          refine sx hXL [] 400 rfl (by (simp [conjP, addOP])) ?_
          (exact hJ _ _ _ Sub.rfl)
        case nGc => cases o <;> rfl
        refine si_tt rfl ?_
        refine si_seq ?_
        refine' si_any hXL Tryd.f11 400 [] rfl ?nHc rfl ?oHc ?kHc
        case oHc => simp [conjP]
        case nHc => cases o <;> rfl
        refine si_mark_ret hXL hb' ?_
        cases o <;> exact ss_end0 hXL [0, 10] rfl trivial rfl rfl rfl rfl (by (repeat' (first | exact rfl | exact trivial | exact sim_refl _ | refine And.intro ?_ ?_))) (by (repeat' (first | exact rfl | exact trivial | exact sim_refl _ | refine And.intro ?_ ?_))) (by (repeat' (first | exact rfl | exact trivial | exact sim_refl _ | refine And.intro ?_ ?_))) (by (repeat' (first | exact rfl | exact trivial | exact sim_refl _ | refine And.intro ?_ ?_)))
    cases o with
    | none =>
      refine si_seq ?_
      refine' si_any hXL Tryd.f11 400 [] rfl ?nAn rfl ?oAn ?kAn
      case oAn => simp [conjP]
      case nAn => rfl
      refine si_cond rfl (fun hd => ?_) (fun hd => ?_)
      · have e5 := hl_over (a0 := a0) (a1 := a1) (a2 := a2) (a4 := a4) (a5 := a5) (a6 := a6) (a7 := a7) (c := 1) (W := W) (n := 12 - (lst (none : Option (List Int))).length) (p := at') (o := none) hz (by simpa [classF] using hc) (by simpa [lst, cntV] using hd)
        rw [e3] at e5
        subst e5
        refine si_seq ?_
        refine' si_region hXL (fn := Tryd.f11) rfl ?nBn (fun ρ W J hJ => ?hBn) ?kBn
        case hBn =>
          refine sx hXL [] 400 rfl (by (simp [conjP])) ?_
          refine sx hXL [.F] 400 rfl (by (simp [conjP, addOP])) ?_
          (exact hJ _ _ _ Sub.rfl)
        case nBn => rfl
        refine hout _ _ _ _ rfl ?_
        refine si_split 2 ?_
        refine' si_ops_run hXL (fn := Tryd.f46) rfl ?nCn (fun ρ W J hJ => ?hCn) ?kCn
        case hCn =>
          refine sx hXL [] 400 rfl (by (simp [conjP, addOP])) ?_
          (exact hJ _ _ _ Sub.rfl)
        case nCn => rfl
        refine si_ops_nil ?_
        refine si_tt rfl ?_
        refine (hend _ _ _ (by simp) rfl (fun b' hb' => ?afn)).2 _
        case afn =>
          show SI _ _ _ _ _ _ _ _ _ (.code (.exit _) :: _) _ _
          refine si_exit rfl ?_
          refine si_seq ?_
          refine si_seq ?_
          refine' si_region hXL (fn := Tryd.f11) rfl ?nGn (fun ρ W J hJ => ?hGn) ?kGn
          case hGn =>
            refine sx hXL [] 400 rfl (by (simp [conjP, addOP])) ?_
            (exact hJ _ _ _ Sub.rfl)
          case nGn => rfl
          refine si_tt rfl ?_
          refine si_seq ?_
          refine' si_any hXL Tryd.f11 400 [] rfl ?nHn rfl ?oHn ?kHn
          case oHn => simp [conjP]
          case nHn => rfl
          refine si_mark_ret hXL hb' ?_
          exact ss_end0 hXL [0, 10] rfl trivial rfl rfl rfl rfl (by (repeat' (first | exact rfl | exact trivial | exact sim_refl _ | refine And.intro ?_ ?_))) (by (repeat' (first | exact rfl | exact trivial | exact sim_refl _ | refine And.intro ?_ ?_))) (by (repeat' (first | exact rfl | exact trivial | exact sim_refl _ | refine And.intro ?_ ?_))) (by (repeat' (first | exact rfl | exact trivial | exact sim_refl _ | refine And.intro ?_ ?_)))
      · have e5 := hl_go (a0 := a0) (a1 := a1) (a2 := a2) (a4 := a4) (a5 := a5) (a6 := a6) (a7 := a7) (c := 1) (W := W) (n := 12 - (lst (none : Option (List Int))).length) (p := at') (o := none) hz (by simpa [classF] using hc) (by simpa [lst, cntV] using hd)
        rw [e3] at e5
        have hl5 : ¬ (([] : List Int).length : Int) = cntV 1 a5 a7 := by simpa [lst, cntV] using hd
        obtain ⟨b1, b2⟩ := class_there (show classV a5 a7 (W.getD at'.toNat 0 % 4294967296) = 1 by simpa [classF] using hc) (by decide)
        obtain ⟨b3, b4⟩ := block_range hr b1 b2
        refine si_skip ?_
        refine si_blk ?_
        refine' si_region hXL (fn := Tryd.f11) rfl ?nDn (fun ρ W J hJ => ?hDn) ?kDn
        case hDn =>
          refine sx hXL [] 400 rfl (by (simp [conjP])) ?_
          (exact hJ _ _ _ Sub.rfl)
        case nDn => rfl
        refine si_blk ?_
        refine hgo _ _ ?_
        refine si_split 2 ?_
        refine' si_ops_run hXL (fn := Tryd.f46) rfl ?nEn (fun ρ W J hJ => ?hEn) ?kEn
        case hEn =>
          refine sx hXL [] 400 rfl (by (simp [conjP, addOP])) ?_
          (exact hJ _ _ _ Sub.rfl)
        case nEn => rfl
        refine si_ops_nil ?_
        refine si_ff rfl ?_
        refine si_skip ?_
        refine' si_region hXL (fn := Tryd.f46) rfl ?nFn (fun ρ W J hJ => ?hFn) ?kFn
        case hFn =>
          refine sx hXL [] 400 rfl (by (simp [conjP, hr] <;> (first | omega | ((repeat' (refine And.intro ?_ ?_)) <;> (first | omega | exact decide_eq_false (by omega) | exact decide_eq_true (by omega)))))) ?_
          (exact hJ _ _ _ Sub.rfl)
        case nFn => rfl
        refine si_blk ?_
        refine si_told hXL (T1 := liT l (blockF a0 a1 a2 a3 a4 a5 a6 a7 a8 (W.getD at'.toNat 0 % 4294967296))) (H1 := liH a0 a1 a2 a3 a4 a5 a6 a7 a8 1 W (some (([] : List Int) ++ [W.getD at'.toNat 0 % 4294967296]))) [0, 1, 2, 3, 4, 5, 6, 7, 8, 11] rfl rfl rfl rfl (by (repeat' (first | exact rfl | exact trivial | exact sim_refl _ | refine And.intro ?_ ?_))) (by (((repeat' (first | exact rfl | exact trivial | exact sim_refl _ | (simp [mulS]; done) | refine And.intro ?_ ?_)); done))) (by (repeat' (first | exact rfl | exact trivial | exact sim_refl _ | refine And.intro ?_ ?_))) (by (repeat' (first | exact rfl | exact trivial | exact sim_refl _ | refine And.intro ?_ ?_))) ?_
        refine back (_, some (([] : List Int) ++ [_])) ⟨b3, by rw [hW]; exact b4, ?_, ?_⟩ ?_
        · simp [lst] at i3 hl5 ⊢; omega
        · have e6 : 13 - (lst (some (([] : List Int) ++ [W.getD at'.toNat 0 % 4294967296]))).length = 12 - (lst (none : Option (List Int))).length := by simp [lst]
          show hlF _ _ _ _ _ _ _ _ _ (13 - (lst (some (([] : List Int) ++ [W.getD at'.toNat 0 % 4294967296]))).length) _ _ = res
          rw [e6, e5]; rfl
        · simp [lst] at i3 ⊢ <;> omega

    | some g =>
      have i4 : (g.length : Int) ≤ 12 := by simp [lst] at i3; omega
      refine si_seq ?_
      refine' si_any hXL Tryd.f11 400 [] rfl ?nAs rfl ?oAs ?kAs
      case oAs => simp [conjP]
      case nAs => rfl
      refine si_cond rfl (fun hd => ?_) (fun hd => ?_)
      · have e5 := hl_over (a0 := a0) (a1 := a1) (a2 := a2) (a4 := a4) (a5 := a5) (a6 := a6) (a7 := a7) (c := 1) (W := W) (n := 12 - (lst (some g : Option (List Int))).length) (p := at') (o := some g) hz (by simpa [classF] using hc) (by simpa [lst, cntV] using hd)
        rw [e3] at e5
        subst e5
        refine si_seq ?_
        refine' si_region hXL (fn := Tryd.f11) rfl ?nBs (fun ρ W J hJ => ?hBs) ?kBs
        case hBs =>
          refine sx hXL [] 400 rfl (by (simp [conjP])) ?_
          refine sx hXL [.F] 400 rfl (by (simp [conjP, addOP])) ?_
          (exact hJ _ _ _ Sub.rfl)
        case nBs => rfl
        refine hout _ _ _ _ rfl ?_
        refine si_split 2 ?_
        refine' si_ops_run hXL (fn := Tryd.f46) rfl ?nCs (fun ρ W J hJ => ?hCs) ?kCs
        case hCs =>
          refine sx hXL [] 400 rfl (by (simp [conjP, addOP])) ?_
          (exact hJ _ _ _ Sub.rfl)
        case nCs => rfl
        refine si_ops_nil ?_
        refine si_tt rfl ?_
        refine (hend _ _ _ (by simp) rfl (fun b' hb' => ?afs)).2 _
        case afs =>
          show SI _ _ _ _ _ _ _ _ _ (.code (.exit _) :: _) _ _
          refine si_exit rfl ?_
          refine si_seq ?_
          refine si_seq ?_
          refine' si_region hXL (fn := Tryd.f11) rfl ?nGs (fun ρ W J hJ => ?hGs) ?kGs
          case hGs =>
            refine sx hXL [] 400 rfl (by (simp [conjP, addOP])) ?_
            (exact hJ _ _ _ Sub.rfl)
          case nGs => rfl
          refine si_tt rfl ?_
          refine si_seq ?_
          refine' si_any hXL Tryd.f11 400 [] rfl ?nHs rfl ?oHs ?kHs
          case oHs => simp [conjP]
          case nHs => rfl
          refine si_mark_ret hXL hb' ?_
          exact ss_end0 hXL [0, 10] rfl trivial rfl rfl rfl rfl (by (repeat' (first | exact rfl | exact trivial | exact sim_refl _ | refine And.intro ?_ ?_))) (by (repeat' (first | exact rfl | exact trivial | exact sim_refl _ | refine And.intro ?_ ?_))) (by (repeat' (first | exact rfl | exact trivial | exact sim_refl _ | refine And.intro ?_ ?_))) (by (repeat' (first | exact rfl | exact trivial | exact sim_refl _ | refine And.intro ?_ ?_)))
      · have e5 := hl_go (a0 := a0) (a1 := a1) (a2 := a2) (a4 := a4) (a5 := a5) (a6 := a6) (a7 := a7) (c := 1) (W := W) (n := 12 - (lst (some g : Option (List Int))).length) (p := at') (o := some g) hz (by simpa [classF] using hc) (by simpa [lst, cntV] using hd)
        rw [e3] at e5
        have hl5 : ¬ (g.length : Int) = cntV 1 a5 a7 := by simpa [lst, cntV] using hd
        obtain ⟨b1, b2⟩ := class_there (show classV a5 a7 (W.getD at'.toNat 0 % 4294967296) = 1 by simpa [classF] using hc) (by decide)
        obtain ⟨b3, b4⟩ := block_range hr b1 b2
        refine si_skip ?_
        refine si_blk ?_
        refine' si_region hXL (fn := Tryd.f11) rfl ?nDs (fun ρ W J hJ => ?hDs) ?kDs
        case hDs =>
          refine sx hXL [] 400 rfl (by (simp [conjP] <;> (first | omega | ((repeat' (refine And.intro ?_ ?_)) <;> (first | omega | exact decide_eq_false (by omega) | exact decide_eq_true (by omega)))))) ?_
          (exact hJ _ _ _ Sub.rfl)
        case nDs => rfl
        refine si_blk ?_
        refine hgo _ _ ?_
        refine si_split 2 ?_
        refine' si_ops_run hXL (fn := Tryd.f46) rfl ?nEs (fun ρ W J hJ => ?hEs) ?kEs
        case hEs =>
          refine sx hXL [] 400 rfl (by (simp [conjP, addOP])) ?_
          (exact hJ _ _ _ Sub.rfl)
        case nEs => rfl
        refine si_ops_nil ?_
        refine si_ff rfl ?_
        refine si_skip ?_
        refine' si_region hXL (fn := Tryd.f46) rfl ?nFs (fun ρ W J hJ => ?hFs) ?kFs
        case hFs =>
          refine sx hXL [] 400 rfl (by (simp [conjP, hr] <;> (first | omega | ((repeat' (refine And.intro ?_ ?_)) <;> (first | omega | exact decide_eq_false (by omega) | exact decide_eq_true (by omega)))))) ?_
          (exact hJ _ _ _ Sub.rfl)
        case nFs => rfl
        refine si_blk ?_
        refine si_told hXL (T1 := liT l (blockF a0 a1 a2 a3 a4 a5 a6 a7 a8 (W.getD at'.toNat 0 % 4294967296))) (H1 := liH a0 a1 a2 a3 a4 a5 a6 a7 a8 1 W (some (g ++ [W.getD at'.toNat 0 % 4294967296]))) [0, 1, 2, 3, 4, 5, 6, 7, 8, 11] rfl rfl rfl rfl (by (repeat' (first | exact rfl | exact trivial | exact sim_refl _ | refine And.intro ?_ ?_))) (by (((repeat' (first | exact rfl | exact trivial | exact sim_refl _ | (simp [mulS]; done) | refine And.intro ?_ ?_)); done))) (by (repeat' (first | exact rfl | exact trivial | exact sim_refl _ | refine And.intro ?_ ?_))) (by (repeat' (first | exact rfl | exact trivial | exact sim_refl _ | refine And.intro ?_ ?_))) ?_
        refine back (_, some (g ++ [_])) ⟨b3, by rw [hW]; exact b4, ?_, ?_⟩ ?_
        · simp [lst] at i3 hl5 ⊢; omega
        · have e6 : 13 - (lst (some (g ++ [W.getD at'.toNat 0 % 4294967296]))).length = 12 - (lst (some g : Option (List Int))).length := by simp [lst]
          show hlF _ _ _ _ _ _ _ _ _ (13 - (lst (some (g ++ [W.getD at'.toNat 0 % 4294967296]))).length) _ _ = res
          rw [e6, e5]; rfl
        · simp [lst] at i3 ⊢ <;> omega

/-! What is not asked of a right config, of a class, and of as many words. -/

set_option maxHeartbeats 8000000 in
theorem hl_arg_a {m k : Nat} (hn : ¬ (rightB a0 a1 a2 a3 a4 a5 a6 a7 a8 = true ∧ 0 ≤ c ∧ c ≤ 1)) : Gives Tryd.prog 11 [C9 a0 a1 a2 a3 a4 a5 a6 a7 a8, .slice 0 0 m k, .int .i64 c] [.obj (.ints .u64 W 43)] (Is (hlV (.code 1)) (hlL (.ints .u64 W 43) (.code 1))) := by
  refine si_fn (fn := Tryd.f11) rfl rfl rfl fun ρ w => ?_
  refine si_seq ?_
  refine' si_region hXL (fn := Tryd.f11) rfl ?n0 (fun ρ W J hJ => ?h0) ?k0
  case h0 =>
    refine sx hXL [] 400 rfl (by (simp [conjP, addOP])) ?_
    (exact hJ _ _ _ Sub.rfl)
  case n0 => rfl
  refine si_scope noGoto_fn ?_
  refine si_seq ?_
  refine si_block ?_
  refine si_seq ?_
  by_cases hr : rightB a0 a1 a2 a3 a4 a5 a6 a7 a8 = true
  · have hk : c < 0 ∨ 1 < c := by
      rcases Int.lt_or_le c 0 with q | q
      · exact .inl q
      · exact .inr (Int.not_le.1 fun q2 => hn ⟨hr, q, q2⟩)
    rcases hk with hk | hk
    · refine' si_region hXL (fn := Tryd.f11) rfl ?n1a (fun ρ W J hJ => ?h1a) ?k1a
      case h1a =>
        refine sx hXL [] 400 rfl (by (simp [conjP, addOP])) ?_
        refine sx hXL [.F] 400 rfl (by (simp [conjP, addOP, hr])) ?_
        refine sx hXL [.T] 400 rfl (by (simp [conjP, addOP, hk])) ?_
        (exact hJ _ _ _ Sub.rfl)
      case n1a => rfl
      refine si_tt rfl ?_
      refine si_seq ?_
      refine' si_region hXL (fn := Tryd.f11) rfl ?n2a (fun ρ W J hJ => ?h2a) ?k2a
      case h2a =>
        refine sx hXL [] 400 rfl (by (simp [conjP])) ?_
        refine sx hXL [.F] 400 rfl (by (simp [conjP, addOP])) ?_
        (exact hJ _ _ _ Sub.rfl)
      case n2a => rfl
      refine si_fn_ret hXL ?_
      exact ss_end0 hXL [0] rfl trivial rfl rfl rfl rfl (by (repeat' (first | exact rfl | exact trivial | exact sim_refl _ | refine And.intro ?_ ?_))) (by (repeat' (first | exact rfl | exact trivial | exact sim_refl _ | refine And.intro ?_ ?_))) (by (repeat' (first | exact rfl | exact trivial | exact sim_refl _ | refine And.intro ?_ ?_))) (by (repeat' (first | exact rfl | exact trivial | exact sim_refl _ | refine And.intro ?_ ?_)))
    · refine' si_region hXL (fn := Tryd.f11) rfl ?n1b (fun ρ W J hJ => ?h1b) ?k1b
      case h1b =>
        refine sx hXL [] 400 rfl (by (simp [conjP, addOP])) ?_
        refine sx hXL [.F] 400 rfl (by (simp [conjP, addOP, hr])) ?_
        refine sx hXL [.F] 400 rfl (by (simp [conjP, addOP] <;> (first | omega | ((repeat' (refine And.intro ?_ ?_)) <;> (first | omega | exact decide_eq_false (by omega) | exact decide_eq_true (by omega)))))) ?_
        (exact hJ _ _ _ Sub.rfl)
      case n1b => rfl
      refine si_cond rfl (fun hb => ?_) (fun hb => absurd hk (Int.not_lt.2 (by simpa using hb)))
      refine si_seq ?_
      refine' si_region hXL (fn := Tryd.f11) rfl ?n2b (fun ρ W J hJ => ?h2b) ?k2b
      case h2b =>
        refine sx hXL [] 400 rfl (by (simp [conjP])) ?_
        refine sx hXL [.F] 400 rfl (by (simp [conjP, addOP])) ?_
        (exact hJ _ _ _ Sub.rfl)
      case n2b => rfl
      refine si_fn_ret hXL ?_
      exact ss_end0 hXL [0] rfl trivial rfl rfl rfl rfl (by (repeat' (first | exact rfl | exact trivial | exact sim_refl _ | refine And.intro ?_ ?_))) (by (repeat' (first | exact rfl | exact trivial | exact sim_refl _ | refine And.intro ?_ ?_))) (by (repeat' (first | exact rfl | exact trivial | exact sim_refl _ | refine And.intro ?_ ?_))) (by (repeat' (first | exact rfl | exact trivial | exact sim_refl _ | refine And.intro ?_ ?_)))
  · have hk : True := trivial
    refine' si_region hXL (fn := Tryd.f11) rfl ?n1c (fun ρ W J hJ => ?h1c) ?k1c
    case h1c =>
      refine sx hXL [] 400 rfl (by (simp [conjP, addOP])) ?_
      refine sx hXL [.T] 400 rfl (by (simp [conjP, addOP, hr])) ?_
      refine sx hXL [.F] 400 rfl (by (simp [conjP, addOP])) ?_
      (exact hJ _ _ _ Sub.rfl)
    case n1c => rfl
    refine si_tt rfl ?_
    refine si_seq ?_
    refine' si_region hXL (fn := Tryd.f11) rfl ?n2c (fun ρ W J hJ => ?h2c) ?k2c
    case h2c =>
      refine sx hXL [] 400 rfl (by (simp [conjP])) ?_
      refine sx hXL [.F] 400 rfl (by (simp [conjP, addOP])) ?_
      (exact hJ _ _ _ Sub.rfl)
    case n2c => rfl
    refine si_fn_ret hXL ?_
    exact ss_end0 hXL [0] rfl trivial rfl rfl rfl rfl (by (repeat' (first | exact rfl | exact trivial | exact sim_refl _ | refine And.intro ?_ ?_))) (by (repeat' (first | exact rfl | exact trivial | exact sim_refl _ | refine And.intro ?_ ?_))) (by (repeat' (first | exact rfl | exact trivial | exact sim_refl _ | refine And.intro ?_ ?_))) (by (repeat' (first | exact rfl | exact trivial | exact sim_refl _ | refine And.intro ?_ ?_)))

set_option maxHeartbeats 8000000 in
theorem hl_range_a {m k : Nat} (hr : rightB a0 a1 a2 a3 a4 a5 a6 a7 a8 = true) (hc0 : 0 ≤ c) (hc1 : c ≤ 1) (hl : ¬ (m : Int) = sizeV a0 a1 a2 a4 a5 a6 a7) : Gives Tryd.prog 11 [C9 a0 a1 a2 a3 a4 a5 a6 a7 a8, .slice 0 0 m k, .int .i64 c] [.obj (.ints .u64 W 43)] (Is (hlV (.code 23)) (hlL (.ints .u64 W 43) (.code 23))) := by
  refine si_fn (fn := Tryd.f11) rfl rfl rfl fun ρ w => ?_
  refine si_seq ?_
  refine' si_region hXL (fn := Tryd.f11) rfl ?n0 (fun ρ W J hJ => ?h0) ?k0
  case h0 =>
    refine sx hXL [] 400 rfl (by (simp [conjP, addOP])) ?_
    (exact hJ _ _ _ Sub.rfl)
  case n0 => rfl
  refine si_scope noGoto_fn ?_
  refine si_seq ?_
  refine si_block ?_
  refine si_seq ?_
  refine' si_region hXL (fn := Tryd.f11) rfl ?n1a (fun ρ W J hJ => ?h1a) ?k1a
  case h1a =>
    refine sx hXL [] 400 rfl (by (simp [conjP, addOP])) ?_
    refine sx hXL [.F] 400 rfl (by (simp [conjP, addOP, hr])) ?_
    refine sx hXL [.F] 400 rfl (by (simp [conjP, addOP, hc0])) ?_
    (exact hJ _ _ _ Sub.rfl)
  case n1a => rfl
  refine si_cond rfl (fun hb => ?_) (fun hb => ?_)
  · simp at hb; omega
  refine si_seq ?_
  refine' si_region hXL (fn := Tryd.f11) rfl ?n2a (fun ρ W J hJ => ?h2a) ?k2a
  case h2a =>
    refine sx hXL [] 400 rfl (by (simp [conjP, addOP])) ?_
    (exact hJ _ _ _ Sub.rfl)
  case n2a => rfl
  refine si_cond rfl (fun hb => ?_) (fun hb => ?_)
  · refine si_seq ?_
    refine' si_region hXL (fn := Tryd.f11) rfl ?n3 (fun ρ W J hJ => ?h3) ?k3
    case h3 =>
      refine sx hXL [] 400 rfl (by (simp [conjP])) ?_
      refine sx hXL [.F] 400 rfl (by (simp [conjP, addOP])) ?_
      (exact hJ _ _ _ Sub.rfl)
    case n3 => rfl
    refine si_fn_ret hXL ?_
    exact ss_end0 hXL [0] rfl trivial rfl rfl rfl rfl (by (repeat' (first | exact rfl | exact trivial | exact sim_refl _ | refine And.intro ?_ ?_))) (by (repeat' (first | exact rfl | exact trivial | exact sim_refl _ | refine And.intro ?_ ?_))) (by (repeat' (first | exact rfl | exact trivial | exact sim_refl _ | refine And.intro ?_ ?_))) (by (repeat' (first | exact rfl | exact trivial | exact sim_refl _ | refine And.intro ?_ ?_)))
  · simp [hr] at hb; exact absurd hb hl

set_option maxHeartbeats 8000000 in
theorem hl_arg_b {m : Nat} (hn : ¬ (rightB a0 a1 a2 a3 a4 a5 a6 a7 a8 = true ∧ 0 ≤ c ∧ c ≤ 1)) : Gives Tryd.prog 11 [C9 a0 a1 a2 a3 a4 a5 a6 a7 a8, .sbuf 0 1 0 m, .int .i64 c] [.obj (.buf .u64 W 1 43)] (Is (hlV (.code 1)) (hlL (.buf .u64 W 1 43) (.code 1))) := by
  refine si_fn (fn := Tryd.f11) rfl rfl rfl fun ρ w => ?_
  refine si_seq ?_
  refine' si_region hXL (fn := Tryd.f11) rfl ?n0 (fun ρ W J hJ => ?h0) ?k0
  case h0 =>
    refine sx hXL [] 400 rfl (by (simp [conjP, addOP])) ?_
    (exact hJ _ _ _ Sub.rfl)
  case n0 => rfl
  refine si_scope noGoto_fn ?_
  refine si_seq ?_
  refine si_block ?_
  refine si_seq ?_
  by_cases hr : rightB a0 a1 a2 a3 a4 a5 a6 a7 a8 = true
  · have hk : c < 0 ∨ 1 < c := by
      rcases Int.lt_or_le c 0 with q | q
      · exact .inl q
      · exact .inr (Int.not_le.1 fun q2 => hn ⟨hr, q, q2⟩)
    rcases hk with hk | hk
    · refine' si_region hXL (fn := Tryd.f11) rfl ?n1a (fun ρ W J hJ => ?h1a) ?k1a
      case h1a =>
        refine sx hXL [] 400 rfl (by (simp [conjP, addOP])) ?_
        refine sx hXL [.F] 400 rfl (by (simp [conjP, addOP, hr])) ?_
        refine sx hXL [.T] 400 rfl (by (simp [conjP, addOP, hk])) ?_
        (exact hJ _ _ _ Sub.rfl)
      case n1a => rfl
      refine si_tt rfl ?_
      refine si_seq ?_
      refine' si_region hXL (fn := Tryd.f11) rfl ?n2a (fun ρ W J hJ => ?h2a) ?k2a
      case h2a =>
        refine sx hXL [] 400 rfl (by (simp [conjP])) ?_
        refine sx hXL [.F] 400 rfl (by (simp [conjP, addOP])) ?_
        (exact hJ _ _ _ Sub.rfl)
      case n2a => rfl
      refine si_fn_ret hXL ?_
      exact ss_end0 hXL [0] rfl trivial rfl rfl rfl rfl (by (repeat' (first | exact rfl | exact trivial | exact sim_refl _ | refine And.intro ?_ ?_))) (by (repeat' (first | exact rfl | exact trivial | exact sim_refl _ | refine And.intro ?_ ?_))) (by (repeat' (first | exact rfl | exact trivial | exact sim_refl _ | refine And.intro ?_ ?_))) (by (repeat' (first | exact rfl | exact trivial | exact sim_refl _ | refine And.intro ?_ ?_)))
    · refine' si_region hXL (fn := Tryd.f11) rfl ?n1b (fun ρ W J hJ => ?h1b) ?k1b
      case h1b =>
        refine sx hXL [] 400 rfl (by (simp [conjP, addOP])) ?_
        refine sx hXL [.F] 400 rfl (by (simp [conjP, addOP, hr])) ?_
        refine sx hXL [.F] 400 rfl (by (simp [conjP, addOP] <;> (first | omega | ((repeat' (refine And.intro ?_ ?_)) <;> (first | omega | exact decide_eq_false (by omega) | exact decide_eq_true (by omega)))))) ?_
        (exact hJ _ _ _ Sub.rfl)
      case n1b => rfl
      refine si_cond rfl (fun hb => ?_) (fun hb => absurd hk (Int.not_lt.2 (by simpa using hb)))
      refine si_seq ?_
      refine' si_region hXL (fn := Tryd.f11) rfl ?n2b (fun ρ W J hJ => ?h2b) ?k2b
      case h2b =>
        refine sx hXL [] 400 rfl (by (simp [conjP])) ?_
        refine sx hXL [.F] 400 rfl (by (simp [conjP, addOP])) ?_
        (exact hJ _ _ _ Sub.rfl)
      case n2b => rfl
      refine si_fn_ret hXL ?_
      exact ss_end0 hXL [0] rfl trivial rfl rfl rfl rfl (by (repeat' (first | exact rfl | exact trivial | exact sim_refl _ | refine And.intro ?_ ?_))) (by (repeat' (first | exact rfl | exact trivial | exact sim_refl _ | refine And.intro ?_ ?_))) (by (repeat' (first | exact rfl | exact trivial | exact sim_refl _ | refine And.intro ?_ ?_))) (by (repeat' (first | exact rfl | exact trivial | exact sim_refl _ | refine And.intro ?_ ?_)))
  · have hk : True := trivial
    refine' si_region hXL (fn := Tryd.f11) rfl ?n1c (fun ρ W J hJ => ?h1c) ?k1c
    case h1c =>
      refine sx hXL [] 400 rfl (by (simp [conjP, addOP])) ?_
      refine sx hXL [.T] 400 rfl (by (simp [conjP, addOP, hr])) ?_
      refine sx hXL [.F] 400 rfl (by (simp [conjP, addOP])) ?_
      (exact hJ _ _ _ Sub.rfl)
    case n1c => rfl
    refine si_tt rfl ?_
    refine si_seq ?_
    refine' si_region hXL (fn := Tryd.f11) rfl ?n2c (fun ρ W J hJ => ?h2c) ?k2c
    case h2c =>
      refine sx hXL [] 400 rfl (by (simp [conjP])) ?_
      refine sx hXL [.F] 400 rfl (by (simp [conjP, addOP])) ?_
      (exact hJ _ _ _ Sub.rfl)
    case n2c => rfl
    refine si_fn_ret hXL ?_
    exact ss_end0 hXL [0] rfl trivial rfl rfl rfl rfl (by (repeat' (first | exact rfl | exact trivial | exact sim_refl _ | refine And.intro ?_ ?_))) (by (repeat' (first | exact rfl | exact trivial | exact sim_refl _ | refine And.intro ?_ ?_))) (by (repeat' (first | exact rfl | exact trivial | exact sim_refl _ | refine And.intro ?_ ?_))) (by (repeat' (first | exact rfl | exact trivial | exact sim_refl _ | refine And.intro ?_ ?_)))

set_option maxHeartbeats 8000000 in
theorem hl_range_b {m : Nat} (hr : rightB a0 a1 a2 a3 a4 a5 a6 a7 a8 = true) (hc0 : 0 ≤ c) (hc1 : c ≤ 1) (hl : ¬ (m : Int) = sizeV a0 a1 a2 a4 a5 a6 a7) : Gives Tryd.prog 11 [C9 a0 a1 a2 a3 a4 a5 a6 a7 a8, .sbuf 0 1 0 m, .int .i64 c] [.obj (.buf .u64 W 1 43)] (Is (hlV (.code 23)) (hlL (.buf .u64 W 1 43) (.code 23))) := by
  refine si_fn (fn := Tryd.f11) rfl rfl rfl fun ρ w => ?_
  refine si_seq ?_
  refine' si_region hXL (fn := Tryd.f11) rfl ?n0 (fun ρ W J hJ => ?h0) ?k0
  case h0 =>
    refine sx hXL [] 400 rfl (by (simp [conjP, addOP])) ?_
    (exact hJ _ _ _ Sub.rfl)
  case n0 => rfl
  refine si_scope noGoto_fn ?_
  refine si_seq ?_
  refine si_block ?_
  refine si_seq ?_
  refine' si_region hXL (fn := Tryd.f11) rfl ?n1a (fun ρ W J hJ => ?h1a) ?k1a
  case h1a =>
    refine sx hXL [] 400 rfl (by (simp [conjP, addOP])) ?_
    refine sx hXL [.F] 400 rfl (by (simp [conjP, addOP, hr])) ?_
    refine sx hXL [.F] 400 rfl (by (simp [conjP, addOP, hc0])) ?_
    (exact hJ _ _ _ Sub.rfl)
  case n1a => rfl
  refine si_cond rfl (fun hb => ?_) (fun hb => ?_)
  · simp at hb; omega
  refine si_seq ?_
  refine' si_region hXL (fn := Tryd.f11) rfl ?n2a (fun ρ W J hJ => ?h2a) ?k2a
  case h2a =>
    refine sx hXL [] 400 rfl (by (simp [conjP, addOP])) ?_
    (exact hJ _ _ _ Sub.rfl)
  case n2a => rfl
  refine si_cond rfl (fun hb => ?_) (fun hb => ?_)
  · refine si_seq ?_
    refine' si_region hXL (fn := Tryd.f11) rfl ?n3 (fun ρ W J hJ => ?h3) ?k3
    case h3 =>
      refine sx hXL [] 400 rfl (by (simp [conjP])) ?_
      refine sx hXL [.F] 400 rfl (by (simp [conjP, addOP])) ?_
      (exact hJ _ _ _ Sub.rfl)
    case n3 => rfl
    refine si_fn_ret hXL ?_
    exact ss_end0 hXL [0] rfl trivial rfl rfl rfl rfl (by (repeat' (first | exact rfl | exact trivial | exact sim_refl _ | refine And.intro ?_ ?_))) (by (repeat' (first | exact rfl | exact trivial | exact sim_refl _ | refine And.intro ?_ ?_))) (by (repeat' (first | exact rfl | exact trivial | exact sim_refl _ | refine And.intro ?_ ?_))) (by (repeat' (first | exact rfl | exact trivial | exact sim_refl _ | refine And.intro ?_ ?_)))
  · simp [hr] at hb; exact absurd hb hl
end Go.Proofs.YtfdkaakllceebaaDoor
