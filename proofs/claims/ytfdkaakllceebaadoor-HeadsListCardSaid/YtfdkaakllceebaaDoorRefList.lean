/- The document's list, and both lists as contracts. -/
import Derived.Test.YtfdkaakllceebaaDoorListWalk
namespace Go.Proofs.YtfdkaakllceebaaDoor
open Go Go.Hx
set_option maxRecDepth 8000
theorem and32 {x : Int} (h0 : 0 ≤ x) (h1 : x < 18446744073709551616) : ibits .and .u64 x 4294967295 = x % 4294967296 := by
  obtain ⟨n, rfl⟩ := Int.eq_ofNat_of_zero_le h0
  have e : (BitVec.ofInt IntKind.u64.bits (n : Int) &&& BitVec.ofInt IntKind.u64.bits 4294967295).toNat = n % 4294967296 := by
    rw [BitVec.toNat_and]
    have e1 : (BitVec.ofInt IntKind.u64.bits (n : Int)).toNat = n := by
      simp only [BitVec.toNat_ofInt, IntKind.bits]
      omega
    have e2 : (BitVec.ofInt IntKind.u64.bits 4294967295).toNat = 2 ^ 32 - 1 := by decide
    rw [e1, e2, Nat.and_two_pow_sub_one_eq_mod]
  show IntKind.u64.wrap _ = _
  rw [e, IntKind.wrap_u64]
  omega
def rszS : List SV → Option (List Prop × SV)
  | [.agg [.int .i64 a0, .int .i64 a1, .int .i64 a2, .int .i64 a3, .int .i64 a4, .int .i64 a5, .int .i64 a6, .int .i64 a7, .int .i64 a8]] => some ([rightB a0 a1 a2 a3 a4 a5 a6 a7 a8 = true], .int .i64 (sizeV a0 a1 a2 a4 a5 a6 a7))
  | _ => none
theorem rszS_ok : PureOk 39 rszS := by
  intro args ob V hs ho
  unfold rszS at hs
  split at hs
  · simp only [Option.some.injEq, Prod.mk.injEq] at hs
    obtain ⟨rfl, rfl⟩ := hs
    have o1 := ho _ (List.mem_cons_self ..)
    exact ⟨rfl, rfl, rsize_fn o1⟩
  · simp at hs
def ctRl : Nat → Option Hx.Spec
  | 60 => some (pureS rightS)
  | 13 => some (pureS (placeS classF))
  | 28 => some (pureS (placeS blockF))
  | 39 => some (pureS rszS)
  | _ => none
theorem ctRl_ok : ∀ f s args H ob V L, ctRl f = some s → s args H = some (ob, V, L) → AllP ob → Gives Tryd.prog f args H (Is V L) := by
  intro f s args H ob V L h hs ho
  unfold ctRl at h
  split at h
  · simp at h; subst h; exact pureS_ok ⟨_, hTE⟩ (rightS_ok right60) hs ho
  · simp at h; subst h; exact pureS_ok ⟨_, hTE⟩ (placeS_ok (v := classF) rclass_fn) hs ho
  · simp at h; subst h; exact pureS_ok ⟨_, hTE⟩ (placeS_ok (v := blockF) rblock_fn) hs ho
  · simp at h; subst h; exact pureS_ok ⟨_, hTE⟩ (rszS_ok) hs ho
  · simp at h
noncomputable def XRl : Tabs := tabs tr ft xt (fun _ => none) ctRl 0
theorem hXRl : TOk Tryd.prog (XRl) := ⟨hTE, hFT, ctRl_ok, hXT, fun t ks h => by simp [XRl, tabs] at h, mixed⟩
/-- What the document's list tells. -/
def rlV : HR → SV
  | .ok none => .agg [.nilslice, .int .i64 0, .int .i64 0, .ff]
  | .ok (some l) => .agg [.sbuf 1 1 0 l.length, .int .i64 0, .int .i64 0, .ff]
  | .bad e p => .agg [.nilslice, .int .i64 e, .int .i64 p, .tt]
  | .code e => .agg [.nilslice, .int .i64 e, .int .i64 0, .ff]
def rlL (o : SO) : HR → List HE
  | .ok none => [.obj o]
  | .ok (some l) => [.obj o, .obj (.buf .i64 l 1 3)]
  | .bad _ _ => [.obj o]
  | .code _ => [.obj o]
def rlT (W : List Int) (c : Int) (o : Option (List Int)) (p : Int) : List (Nat × SV) := [(1, .slice 0 0 W.length W.length), (2, .int .i64 c), (3, .ptr 1 0), (6, .ptr 2 0), (8, slV o 3), (9, .int .i64 p)]
def rlH (a0 a1 a2 a3 a4 a5 a6 a7 a8 : Int) (W : List Int) (o : Option (List Int)) : List HE := [.obj (.ints .u64 W 43), .obj (.cells [.int .i64 a0, .int .i64 a1, .int .i64 a2, .int .i64 a3, .int .i64 a4, .int .i64 a5, .int .i64 a6, .int .i64 a7, .int .i64 a8] 29), .obj (.cells [.nilslice, .int .i64 0, .int .i64 0, .ff] 83), slE o .i64 3]
def rlT0 (W : List Int) (c : Int) : List (Nat × SV) := [(1, .slice 0 0 W.length W.length), (2, .int .i64 c), (3, .ptr 1 0), (6, .ptr 2 0), (8, .nilslice)]
variable {a0 a1 a2 a3 a4 a5 a6 a7 a8 c : Int} {W : List Int}

set_option maxHeartbeats 8000000 in
theorem rl_loop0 (hr : rightB a0 a1 a2 a3 a4 a5 a6 a7 a8 = true) (hW : (W.length : Int) = sizeV a0 a1 a2 a4 a5 a6 a7) (hWn : ∀ x ∈ W, 0 ≤ x ∧ x < 18446744073709551616) {ρ : Nat → Nat × Nat} {w : World} : SS hXRl (At ρ w) (Is (rlV (hlR a0 a1 a2 a4 a5 a6 a7 0 W)) (rlL (.ints .u64 W 43) (hlR a0 a1 a2 a4 a5 a6 a7 0 W))) ⟨[], [], Tryd.f43, Tryd.f43.ntmps, [.obj (.ints .u64 W 43)], contF Tryd.f43 7 [], rlT0 W 0, rlH a0 a1 a2 a3 a4 a5 a6 a7 a8 W none⟩ := by
  obtain ⟨z0, z1⟩ := size_bd hr
  have hcn : cntV 0 a5 a7 ≤ 12 ∧ 0 ≤ cntV 0 a5 a7 := by rw [right_iff] at hr; simp [cntV]; omega
  generalize hR : hlR a0 a1 a2 a4 a5 a6 a7 0 W = res
  refine sxb hXRl [.l] [] 4000 rfl (by first | exact trivial | simp [conjP]) ?_
  refine ss_sub hXRl (T' := rlT W 0 none (3 + 0)) (H' := rlH a0 a1 a2 a3 a4 a5 a6 a7 a8 W none) [0, 1, 2, 9] rfl rfl rfl rfl (by (repeat' (first | exact rfl | exact trivial | exact sim_refl _ | refine And.intro ?_ ?_))) (by (repeat' (first | exact rfl | exact trivial | exact sim_refl _ | refine And.intro ?_ ?_))) (by (repeat' (first | exact rfl | exact trivial | exact sim_refl _ | refine And.intro ?_ ?_))) (by (repeat' (first | exact rfl | exact trivial | exact sim_refl _ | refine And.intro ?_ ?_))) ?nx
  case nx =>
    refine ss_loop hXRl (fun x : Option (List Int) × Int => rlT W 0 x.1 x.2) (fun x => rlH a0 a1 a2 a3 a4 a5 a6 a7 a8 W x.1) (fun x => 0 ≤ x.2 ∧ x.2 < W.length ∧ ((lst x.1).length : Int) ≤ cntV 0 a5 a7 ∧ hlF a0 a1 a2 a4 a5 a6 a7 0 W (13 - (lst x.1).length) x.2 x.1 = res) (fun x => 100 - (lst x.1).length) (none, 3 + 0) ⟨by decide, by dsimp only; omega, by simp [lst]; omega, hR⟩ ?_
    rintro ⟨o, at'⟩ ⟨i1, i2, i3, e3⟩ I back
    dsimp only at i1 i2 i3 e3
    dsimp only
    have e4 : 13 - (lst o).length = 12 - (lst o).length + 1 := by omega
    rw [e4] at e3
    have hmm : W.getD at'.toNat 0 ∈ W := by rw [List.getD_eq_getElem?_getD, List.getElem?_eq_getElem (by omega : at'.toNat < W.length)]; simp
    obtain ⟨v0, v1⟩ := hWn _ hmm
    have hm := and32 v0 v1
    have hai : at'.toNat < W.length := by omega
    have hwb : IntKind.i64.wrap (W.getD at'.toNat 0 % 4294967296) = W.getD at'.toNat 0 % 4294967296 := wi64 (by omega) (by omega)
    have hE : IntKind.i64.wrap (ibits .and .u64 (W.getD (at'.toNat + 0) 0) 4294967295) = W.getD at'.toNat 0 % 4294967296 := by
      show IntKind.i64.wrap (ibits .and .u64 (W.getD at'.toNat 0) 4294967295) = _
      rw [hm, hwb]
    cases o with
    | none =>
      dsimp only [rlT, rlH, slV, slE]
      by_cases hz : W.getD at'.toNat 0 % 4294967296 = 0
      · rw [hl_end hz] at e3
        subst e3
        refine sx hXRl [] 4000 rfl (by (simp [-List.getD_eq_getElem?_getD, -List.length_eq_zero_iff, conjP, i1, hai] <;> (first | omega | ((repeat' (refine And.intro ?_ ?_)) <;> (first | omega | exact decide_eq_false (by omega) | exact decide_eq_true (by omega)))))) ?_
        refine sx hXRl [.F] 4000 rfl (by (simp [-List.getD_eq_getElem?_getD, -List.length_eq_zero_iff, conjP, addOP, hm, hz] <;> (first | omega | ((repeat' (refine And.intro ?_ ?_)) <;> (first | omega | exact decide_eq_false (by omega) | exact decide_eq_true (by omega)))))) ?_
        (exact ss_end hXRl [0] rfl rfl trivial rfl rfl rfl rfl (by (repeat' (first | exact rfl | exact trivial | exact sim_refl _ | refine And.intro ?_ ?_))) (by (repeat' (first | exact rfl | exact trivial | exact sim_refl _ | refine And.intro ?_ ?_))) (by (repeat' (first | exact rfl | exact trivial | exact sim_refl _ | refine And.intro ?_ ?_))) (by (repeat' (first | exact rfl | exact trivial | exact sim_refl _ | refine And.intro ?_ ?_))))
      by_cases hcF : classV a5 a7 (W.getD at'.toNat 0 % 4294967296) = 0
      · have hcG : classF a0 a1 a2 a3 a4 a5 a6 a7 a8 (W.getD at'.toNat 0 % 4294967296) = 0 := hcF
        by_cases hfl : ((lst (none : Option (List Int))).length : Int) = cntV 0 a5 a7
        · rw [hl_over hz hcF hfl] at e3
          subst e3
          have hfl2 : (0 : Int) = a5 := by simpa [lst, cntV] using hfl
          refine sx hXRl [] 4000 rfl (by (simp [-List.getD_eq_getElem?_getD, -List.length_eq_zero_iff, conjP, i1, hai] <;> (first | omega | ((repeat' (refine And.intro ?_ ?_)) <;> (first | omega | exact decide_eq_false (by omega) | exact decide_eq_true (by omega)))))) ?_
          refine sx hXRl [.T] 4000 rfl (by (simp [-List.getD_eq_getElem?_getD, -List.length_eq_zero_iff, conjP, i1, hai, hm, hz, hr, hwb] <;> (first | omega | ((repeat' (refine And.intro ?_ ?_)) <;> (first | omega | exact decide_eq_false (by omega) | exact decide_eq_true (by omega)))))) ?_
          refine sx hXRl [.F] 4000 rfl (by (simp [-List.getD_eq_getElem?_getD, -List.length_eq_zero_iff, conjP, hm, hcG, hwb] <;> (first | omega | ((repeat' (refine And.intro ?_ ?_)) <;> (first | omega | exact decide_eq_false (by omega) | exact decide_eq_true (by omega)))))) ?_
          refine sx hXRl [.T] 4000 rfl (by (simp [-List.getD_eq_getElem?_getD, -List.length_eq_zero_iff, conjP, addOP] <;> (first | omega | ((repeat' (refine And.intro ?_ ?_)) <;> (first | omega | exact decide_eq_false (by omega) | exact decide_eq_true (by omega)))))) ?_
          (exact ss_end hXRl [0] rfl rfl trivial rfl rfl rfl rfl (by (repeat' (first | exact rfl | exact trivial | exact sim_refl _ | refine And.intro ?_ ?_))) (by (repeat' (first | exact rfl | exact trivial | exact sim_refl _ | refine And.intro ?_ ?_))) (by (repeat' (first | exact rfl | exact trivial | exact sim_refl _ | refine And.intro ?_ ?_))) (by (repeat' (first | exact rfl | exact trivial | exact sim_refl _ | refine And.intro ?_ ?_))))
        · rw [hl_go hz hcF hfl] at e3
          have hfl2 : ¬ (0 : Int) = a5 := by simpa [lst, cntV] using hfl
          have hlen : (0 : Int) ≤ 12 := by decide
          obtain ⟨b1, b2⟩ := class_there hcF (by decide)
          obtain ⟨b3, b4⟩ := block_range hr b1 b2
          have b3' : 0 ≤ blockF a0 a1 a2 a3 a4 a5 a6 a7 a8 (W.getD at'.toNat 0 % 4294967296) := b3
          have hne : (lst (some (([] : List Int) ++ [W.getD at'.toNat 0 % 4294967296]))).length = (lst (none : Option (List Int))).length + 1 := by simp [lst]
          have e6 : 13 - (lst (some (([] : List Int) ++ [W.getD at'.toNat 0 % 4294967296]))).length = 12 - (lst (none : Option (List Int))).length := by rw [hne]; omega
          refine sx hXRl [] 4000 rfl (by (simp [-List.getD_eq_getElem?_getD, -List.length_eq_zero_iff, conjP, i1, hai] <;> (first | omega | ((repeat' (refine And.intro ?_ ?_)) <;> (first | omega | exact decide_eq_false (by omega) | exact decide_eq_true (by omega)))))) ?_
          refine sx hXRl [.T] 4000 rfl (by (simp [-List.getD_eq_getElem?_getD, -List.length_eq_zero_iff, conjP, i1, hai, hm, hz, hr, hwb] <;> (first | omega | ((repeat' (refine And.intro ?_ ?_)) <;> (first | omega | exact decide_eq_false (by omega) | exact decide_eq_true (by omega)))))) ?_
          refine sx hXRl [.F] 4000 rfl (by (simp [-List.getD_eq_getElem?_getD, -List.length_eq_zero_iff, conjP, hm, hcG, hwb] <;> (first | omega | ((repeat' (refine And.intro ?_ ?_)) <;> (first | omega | exact decide_eq_false (by omega) | exact decide_eq_true (by omega)))))) ?_
          refine sx hXRl [.F] 4000 rfl (by (simp [-List.getD_eq_getElem?_getD, -List.length_eq_zero_iff, conjP, hm, hr, hwb, hfl2] <;> (first | omega | ((repeat' (refine And.intro ?_ ?_)) <;> (first | omega | exact decide_eq_false (by omega) | exact decide_eq_true (by omega)))))) ?_
          (simp only [hE]; refine back (some (([] : List Int) ++ [W.getD at'.toNat 0 % 4294967296]), blockV a0 a1 a2 a4 a5 a6 a7 (W.getD at'.toNat 0 % 4294967296)) ⟨b3, ?q1, ?q2, ?q3⟩ ?q4 _ _ _ (sub_of [0, 1, 2, 5] rfl rfl rfl rfl ?tt ?hh (by (repeat' (first | exact rfl | exact trivial | exact sim_refl _ | refine And.intro ?_ ?_))) (by (repeat' (first | exact rfl | exact trivial | exact sim_refl _ | refine And.intro ?_ ?_)))); (case tt => (repeat' (first | exact rfl | exact trivial | exact sim_refl _ | (simp; done) | refine And.intro ?_ ?_))); (case hh => (repeat' (first | exact rfl | exact trivial | exact sim_refl _ | (simp; done) | refine And.intro ?_ ?_))); (case q1 => rw [hW]; exact b4); (case q2 => (show ((lst (some (([] : List Int) ++ [W.getD at'.toNat 0 % 4294967296]))).length : Int) ≤ cntV 0 a5 a7); rw [hne]; omega); (case q3 => rw [e6]; exact e3); (case q4 => dsimp only; omega))
      · have hcG : ¬ classF a0 a1 a2 a3 a4 a5 a6 a7 a8 (W.getD at'.toNat 0 % 4294967296) = 0 := hcF
        rw [hl_form hz hcF] at e3
        subst e3
        refine sx hXRl [] 4000 rfl (by (simp [-List.getD_eq_getElem?_getD, -List.length_eq_zero_iff, conjP, i1, hai] <;> (first | omega | ((repeat' (refine And.intro ?_ ?_)) <;> (first | omega | exact decide_eq_false (by omega) | exact decide_eq_true (by omega)))))) ?_
        refine sx hXRl [.T] 4000 rfl (by (simp [-List.getD_eq_getElem?_getD, -List.length_eq_zero_iff, conjP, i1, hai, hm, hz, hr, hwb] <;> (first | omega | ((repeat' (refine And.intro ?_ ?_)) <;> (first | omega | exact decide_eq_false (by omega) | exact decide_eq_true (by omega)))))) ?_
        refine sx hXRl [.T] 4000 rfl (by (simp [-List.getD_eq_getElem?_getD, -List.length_eq_zero_iff, conjP, addOP, hm, hcG, hwb] <;> (first | omega | ((repeat' (refine And.intro ?_ ?_)) <;> (first | omega | exact decide_eq_false (by omega) | exact decide_eq_true (by omega)))))) ?_
        (exact ss_end hXRl [0] rfl rfl trivial rfl rfl rfl rfl (by (repeat' (first | exact rfl | exact trivial | exact sim_refl _ | refine And.intro ?_ ?_))) (by (repeat' (first | exact rfl | exact trivial | exact sim_refl _ | refine And.intro ?_ ?_))) (by (repeat' (first | exact rfl | exact trivial | exact sim_refl _ | refine And.intro ?_ ?_))) (by (repeat' (first | exact rfl | exact trivial | exact sim_refl _ | refine And.intro ?_ ?_))))
    | some g =>
      dsimp only [rlT, rlH, slV, slE]
      by_cases hz : W.getD at'.toNat 0 % 4294967296 = 0
      · rw [hl_end hz] at e3
        subst e3
        refine sx hXRl [] 4000 rfl (by (simp [-List.getD_eq_getElem?_getD, -List.length_eq_zero_iff, conjP, i1, hai] <;> (first | omega | ((repeat' (refine And.intro ?_ ?_)) <;> (first | omega | exact decide_eq_false (by omega) | exact decide_eq_true (by omega)))))) ?_
        refine sx hXRl [.F] 4000 rfl (by (simp [-List.getD_eq_getElem?_getD, -List.length_eq_zero_iff, conjP, addOP, hm, hz] <;> (first | omega | ((repeat' (refine And.intro ?_ ?_)) <;> (first | omega | exact decide_eq_false (by omega) | exact decide_eq_true (by omega)))))) ?_
        (exact ss_end hXRl [0, 3] rfl rfl trivial rfl rfl rfl rfl (by (repeat' (first | exact rfl | exact trivial | exact sim_refl _ | refine And.intro ?_ ?_))) (by (repeat' (first | exact rfl | exact trivial | exact sim_refl _ | refine And.intro ?_ ?_))) (by (repeat' (first | exact rfl | exact trivial | exact sim_refl _ | refine And.intro ?_ ?_))) (by (repeat' (first | exact rfl | exact trivial | exact sim_refl _ | refine And.intro ?_ ?_))))
      by_cases hcF : classV a5 a7 (W.getD at'.toNat 0 % 4294967296) = 0
      · have hcG : classF a0 a1 a2 a3 a4 a5 a6 a7 a8 (W.getD at'.toNat 0 % 4294967296) = 0 := hcF
        by_cases hfl : ((lst (some g : Option (List Int))).length : Int) = cntV 0 a5 a7
        · rw [hl_over hz hcF hfl] at e3
          subst e3
          have hfl2 : (g.length : Int) = a5 := by simpa [lst, cntV] using hfl
          refine sx hXRl [] 4000 rfl (by (simp [-List.getD_eq_getElem?_getD, -List.length_eq_zero_iff, conjP, i1, hai] <;> (first | omega | ((repeat' (refine And.intro ?_ ?_)) <;> (first | omega | exact decide_eq_false (by omega) | exact decide_eq_true (by omega)))))) ?_
          refine sx hXRl [.T] 4000 rfl (by (simp [-List.getD_eq_getElem?_getD, -List.length_eq_zero_iff, conjP, i1, hai, hm, hz, hr, hwb] <;> (first | omega | ((repeat' (refine And.intro ?_ ?_)) <;> (first | omega | exact decide_eq_false (by omega) | exact decide_eq_true (by omega)))))) ?_
          refine sx hXRl [.F] 4000 rfl (by (simp [-List.getD_eq_getElem?_getD, -List.length_eq_zero_iff, conjP, hm, hcG, hwb] <;> (first | omega | ((repeat' (refine And.intro ?_ ?_)) <;> (first | omega | exact decide_eq_false (by omega) | exact decide_eq_true (by omega)))))) ?_
          refine sx hXRl [.T] 4000 rfl (by (simp [-List.getD_eq_getElem?_getD, -List.length_eq_zero_iff, conjP, addOP, hfl2] <;> (first | omega | ((repeat' (refine And.intro ?_ ?_)) <;> (first | omega | exact decide_eq_false (by omega) | exact decide_eq_true (by omega)))))) ?_
          (exact ss_end hXRl [0] rfl rfl trivial rfl rfl rfl rfl (by (repeat' (first | exact rfl | exact trivial | exact sim_refl _ | refine And.intro ?_ ?_))) (by (repeat' (first | exact rfl | exact trivial | exact sim_refl _ | refine And.intro ?_ ?_))) (by (repeat' (first | exact rfl | exact trivial | exact sim_refl _ | refine And.intro ?_ ?_))) (by (repeat' (first | exact rfl | exact trivial | exact sim_refl _ | refine And.intro ?_ ?_))))
        · rw [hl_go hz hcF hfl] at e3
          have hfl2 : ¬ (g.length : Int) = a5 := by simpa [lst, cntV] using hfl
          have hlen : (g.length : Int) ≤ 12 := Int.le_trans (show (g.length : Int) ≤ cntV 0 a5 a7 from i3) hcn.1
          obtain ⟨b1, b2⟩ := class_there hcF (by decide)
          obtain ⟨b3, b4⟩ := block_range hr b1 b2
          have b3' : 0 ≤ blockF a0 a1 a2 a3 a4 a5 a6 a7 a8 (W.getD at'.toNat 0 % 4294967296) := b3
          have hne : (lst (some (g ++ [W.getD at'.toNat 0 % 4294967296]))).length = (lst (some g : Option (List Int))).length + 1 := by simp [lst]
          have e6 : 13 - (lst (some (g ++ [W.getD at'.toNat 0 % 4294967296]))).length = 12 - (lst (some g : Option (List Int))).length := by rw [hne]; omega
          refine sx hXRl [] 4000 rfl (by (simp [-List.getD_eq_getElem?_getD, -List.length_eq_zero_iff, conjP, i1, hai] <;> (first | omega | ((repeat' (refine And.intro ?_ ?_)) <;> (first | omega | exact decide_eq_false (by omega) | exact decide_eq_true (by omega)))))) ?_
          refine sx hXRl [.T] 4000 rfl (by (simp [-List.getD_eq_getElem?_getD, -List.length_eq_zero_iff, conjP, i1, hai, hm, hz, hr, hwb] <;> (first | omega | ((repeat' (refine And.intro ?_ ?_)) <;> (first | omega | exact decide_eq_false (by omega) | exact decide_eq_true (by omega)))))) ?_
          refine sx hXRl [.F] 4000 rfl (by (simp [-List.getD_eq_getElem?_getD, -List.length_eq_zero_iff, conjP, hm, hcG, hwb] <;> (first | omega | ((repeat' (refine And.intro ?_ ?_)) <;> (first | omega | exact decide_eq_false (by omega) | exact decide_eq_true (by omega)))))) ?_
          refine sx hXRl [.F] 4000 rfl (by (simp [-List.getD_eq_getElem?_getD, -List.length_eq_zero_iff, conjP, hm, hr, hwb, hfl2] <;> (first | omega | ((repeat' (refine And.intro ?_ ?_)) <;> (first | omega | exact decide_eq_false (by omega) | exact decide_eq_true (by omega)))))) ?_
          (simp only [hE]; refine back (some (g ++ [W.getD at'.toNat 0 % 4294967296]), blockV a0 a1 a2 a4 a5 a6 a7 (W.getD at'.toNat 0 % 4294967296)) ⟨b3, ?q1, ?q2, ?q3⟩ ?q4 _ _ _ (sub_of [0, 1, 2, 5] rfl rfl rfl rfl ?tt ?hh (by (repeat' (first | exact rfl | exact trivial | exact sim_refl _ | refine And.intro ?_ ?_))) (by (repeat' (first | exact rfl | exact trivial | exact sim_refl _ | refine And.intro ?_ ?_)))); (case tt => (repeat' (first | exact rfl | exact trivial | exact sim_refl _ | (simp; done) | refine And.intro ?_ ?_))); (case hh => (repeat' (first | exact rfl | exact trivial | exact sim_refl _ | (simp; done) | refine And.intro ?_ ?_))); (case q1 => rw [hW]; exact b4); (case q2 => (show ((lst (some (g ++ [W.getD at'.toNat 0 % 4294967296]))).length : Int) ≤ cntV 0 a5 a7); rw [hne]; omega); (case q3 => rw [e6]; exact e3); (case q4 => dsimp only; omega))
      · have hcG : ¬ classF a0 a1 a2 a3 a4 a5 a6 a7 a8 (W.getD at'.toNat 0 % 4294967296) = 0 := hcF
        rw [hl_form hz hcF] at e3
        subst e3
        refine sx hXRl [] 4000 rfl (by (simp [-List.getD_eq_getElem?_getD, -List.length_eq_zero_iff, conjP, i1, hai] <;> (first | omega | ((repeat' (refine And.intro ?_ ?_)) <;> (first | omega | exact decide_eq_false (by omega) | exact decide_eq_true (by omega)))))) ?_
        refine sx hXRl [.T] 4000 rfl (by (simp [-List.getD_eq_getElem?_getD, -List.length_eq_zero_iff, conjP, i1, hai, hm, hz, hr, hwb] <;> (first | omega | ((repeat' (refine And.intro ?_ ?_)) <;> (first | omega | exact decide_eq_false (by omega) | exact decide_eq_true (by omega)))))) ?_
        refine sx hXRl [.T] 4000 rfl (by (simp [-List.getD_eq_getElem?_getD, -List.length_eq_zero_iff, conjP, addOP, hm, hcG, hwb] <;> (first | omega | ((repeat' (refine And.intro ?_ ?_)) <;> (first | omega | exact decide_eq_false (by omega) | exact decide_eq_true (by omega)))))) ?_
        (exact ss_end hXRl [0] rfl rfl trivial rfl rfl rfl rfl (by (repeat' (first | exact rfl | exact trivial | exact sim_refl _ | refine And.intro ?_ ?_))) (by (repeat' (first | exact rfl | exact trivial | exact sim_refl _ | refine And.intro ?_ ?_))) (by (repeat' (first | exact rfl | exact trivial | exact sim_refl _ | refine And.intro ?_ ?_))) (by (repeat' (first | exact rfl | exact trivial | exact sim_refl _ | refine And.intro ?_ ?_))))
set_option maxHeartbeats 8000000 in
theorem rl_fn0 (hr : rightB a0 a1 a2 a3 a4 a5 a6 a7 a8 = true) (hW : (W.length : Int) = sizeV a0 a1 a2 a4 a5 a6 a7) (hWn : ∀ x ∈ W, 0 ≤ x ∧ x < 18446744073709551616) : Gives Tryd.prog 43 [C9 a0 a1 a2 a3 a4 a5 a6 a7 a8, .slice 0 0 W.length W.length, .int .i64 0] [.obj (.ints .u64 W 43)] (Is (rlV (hlR a0 a1 a2 a4 a5 a6 a7 0 W)) (rlL (.ints .u64 W 43) (hlR a0 a1 a2 a4 a5 a6 a7 0 W))) := by
  refine gives_x hXRl (fn := Tryd.f43) rfl rfl rfl rfl fun ρ w => ?_
  have key := rl_loop0 hr hW hWn (ρ := ρ) (w := w)
  refine sxb hXRl [.r 7] [] 4000 rfl (by (simp [-List.getD_eq_getElem?_getD, -List.length_eq_zero_iff, conjP] <;> (first | omega | ((repeat' (refine And.intro ?_ ?_)) <;> (first | omega | exact decide_eq_false (by omega) | exact decide_eq_true (by omega)))))) ?_
  refine sxb hXRl [.r 7] [.F] 4000 rfl (by (simp [-List.getD_eq_getElem?_getD, -List.length_eq_zero_iff, conjP, addOP, hr] <;> (first | omega | ((repeat' (refine And.intro ?_ ?_)) <;> (first | omega | exact decide_eq_false (by omega) | exact decide_eq_true (by omega)))))) ?_
  refine sxb hXRl [.r 7] [.F] 4000 rfl (by (simp [-List.getD_eq_getElem?_getD, -List.length_eq_zero_iff, conjP, addOP] <;> (first | omega | ((repeat' (refine And.intro ?_ ?_)) <;> (first | omega | exact decide_eq_false (by omega) | exact decide_eq_true (by omega)))))) ?_
  refine sxb hXRl [.r 7] [.F] 4000 rfl (by (simp [-List.getD_eq_getElem?_getD, -List.length_eq_zero_iff, conjP, hr] <;> (first | omega | ((repeat' (refine And.intro ?_ ?_)) <;> (first | omega | exact decide_eq_false (by omega) | exact decide_eq_true (by omega)))))) ?_
  refine sxb hXRl [.r 7] [.F] 4000 rfl (by (simp [-List.getD_eq_getElem?_getD, -List.length_eq_zero_iff, conjP, addOP, hW] <;> (first | omega | ((repeat' (refine And.intro ?_ ?_)) <;> (first | omega | exact decide_eq_false (by omega) | exact decide_eq_true (by omega)))))) ?_
  (refine ss_sub hXRl (T' := rlT0 W 0) (H' := rlH a0 a1 a2 a3 a4 a5 a6 a7 a8 W none) [0, 1, 2, 9] rfl rfl rfl rfl (by (repeat' (first | exact rfl | exact trivial | exact sim_refl _ | refine And.intro ?_ ?_))) (by (repeat' (first | exact rfl | exact trivial | exact sim_refl _ | refine And.intro ?_ ?_))) (by (repeat' (first | exact rfl | exact trivial | exact sim_refl _ | refine And.intro ?_ ?_))) (by (repeat' (first | exact rfl | exact trivial | exact sim_refl _ | refine And.intro ?_ ?_))) ?_; exact key)
set_option maxHeartbeats 8000000 in
theorem rl_loop1 (hr : rightB a0 a1 a2 a3 a4 a5 a6 a7 a8 = true) (hW : (W.length : Int) = sizeV a0 a1 a2 a4 a5 a6 a7) (hWn : ∀ x ∈ W, 0 ≤ x ∧ x < 18446744073709551616) {ρ : Nat → Nat × Nat} {w : World} : SS hXRl (At ρ w) (Is (rlV (hlR a0 a1 a2 a4 a5 a6 a7 1 W)) (rlL (.ints .u64 W 43) (hlR a0 a1 a2 a4 a5 a6 a7 1 W))) ⟨[], [], Tryd.f43, Tryd.f43.ntmps, [.obj (.ints .u64 W 43)], contF Tryd.f43 7 [], rlT0 W 1, rlH a0 a1 a2 a3 a4 a5 a6 a7 a8 W none⟩ := by
  obtain ⟨z0, z1⟩ := size_bd hr
  have hcn : cntV 1 a5 a7 ≤ 12 ∧ 0 ≤ cntV 1 a5 a7 := by rw [right_iff] at hr; simp [cntV]; omega
  generalize hR : hlR a0 a1 a2 a4 a5 a6 a7 1 W = res
  refine sxb hXRl [.l] [] 4000 rfl (by first | exact trivial | simp [conjP]) ?_
  refine ss_sub hXRl (T' := rlT W 1 none (3 + 1)) (H' := rlH a0 a1 a2 a3 a4 a5 a6 a7 a8 W none) [0, 1, 2, 9] rfl rfl rfl rfl (by (repeat' (first | exact rfl | exact trivial | exact sim_refl _ | refine And.intro ?_ ?_))) (by (repeat' (first | exact rfl | exact trivial | exact sim_refl _ | refine And.intro ?_ ?_))) (by (repeat' (first | exact rfl | exact trivial | exact sim_refl _ | refine And.intro ?_ ?_))) (by (repeat' (first | exact rfl | exact trivial | exact sim_refl _ | refine And.intro ?_ ?_))) ?nx
  case nx =>
    refine ss_loop hXRl (fun x : Option (List Int) × Int => rlT W 1 x.1 x.2) (fun x => rlH a0 a1 a2 a3 a4 a5 a6 a7 a8 W x.1) (fun x => 0 ≤ x.2 ∧ x.2 < W.length ∧ ((lst x.1).length : Int) ≤ cntV 1 a5 a7 ∧ hlF a0 a1 a2 a4 a5 a6 a7 1 W (13 - (lst x.1).length) x.2 x.1 = res) (fun x => 100 - (lst x.1).length) (none, 3 + 1) ⟨by decide, by dsimp only; omega, by simp [lst]; omega, hR⟩ ?_
    rintro ⟨o, at'⟩ ⟨i1, i2, i3, e3⟩ I back
    dsimp only at i1 i2 i3 e3
    dsimp only
    have e4 : 13 - (lst o).length = 12 - (lst o).length + 1 := by omega
    rw [e4] at e3
    have hmm : W.getD at'.toNat 0 ∈ W := by rw [List.getD_eq_getElem?_getD, List.getElem?_eq_getElem (by omega : at'.toNat < W.length)]; simp
    obtain ⟨v0, v1⟩ := hWn _ hmm
    have hm := and32 v0 v1
    have hai : at'.toNat < W.length := by omega
    have hwb : IntKind.i64.wrap (W.getD at'.toNat 0 % 4294967296) = W.getD at'.toNat 0 % 4294967296 := wi64 (by omega) (by omega)
    have hE : IntKind.i64.wrap (ibits .and .u64 (W.getD (at'.toNat + 0) 0) 4294967295) = W.getD at'.toNat 0 % 4294967296 := by
      show IntKind.i64.wrap (ibits .and .u64 (W.getD at'.toNat 0) 4294967295) = _
      rw [hm, hwb]
    cases o with
    | none =>
      dsimp only [rlT, rlH, slV, slE]
      by_cases hz : W.getD at'.toNat 0 % 4294967296 = 0
      · rw [hl_end hz] at e3
        subst e3
        refine sx hXRl [] 4000 rfl (by (simp [-List.getD_eq_getElem?_getD, -List.length_eq_zero_iff, conjP, i1, hai] <;> (first | omega | ((repeat' (refine And.intro ?_ ?_)) <;> (first | omega | exact decide_eq_false (by omega) | exact decide_eq_true (by omega)))))) ?_
        refine sx hXRl [.F] 4000 rfl (by (simp [-List.getD_eq_getElem?_getD, -List.length_eq_zero_iff, conjP, addOP, hm, hz] <;> (first | omega | ((repeat' (refine And.intro ?_ ?_)) <;> (first | omega | exact decide_eq_false (by omega) | exact decide_eq_true (by omega)))))) ?_
        (exact ss_end hXRl [0] rfl rfl trivial rfl rfl rfl rfl (by (repeat' (first | exact rfl | exact trivial | exact sim_refl _ | refine And.intro ?_ ?_))) (by (repeat' (first | exact rfl | exact trivial | exact sim_refl _ | refine And.intro ?_ ?_))) (by (repeat' (first | exact rfl | exact trivial | exact sim_refl _ | refine And.intro ?_ ?_))) (by (repeat' (first | exact rfl | exact trivial | exact sim_refl _ | refine And.intro ?_ ?_))))
      by_cases hcF : classV a5 a7 (W.getD at'.toNat 0 % 4294967296) = 1
      · have hcG : classF a0 a1 a2 a3 a4 a5 a6 a7 a8 (W.getD at'.toNat 0 % 4294967296) = 1 := hcF
        by_cases hfl : ((lst (none : Option (List Int))).length : Int) = cntV 1 a5 a7
        · rw [hl_over hz hcF hfl] at e3
          subst e3
          have hfl2 : (0 : Int) = a7 := by simpa [lst, cntV] using hfl
          refine sx hXRl [] 4000 rfl (by (simp [-List.getD_eq_getElem?_getD, -List.length_eq_zero_iff, conjP, i1, hai] <;> (first | omega | ((repeat' (refine And.intro ?_ ?_)) <;> (first | omega | exact decide_eq_false (by omega) | exact decide_eq_true (by omega)))))) ?_
          refine sx hXRl [.T] 4000 rfl (by (simp [-List.getD_eq_getElem?_getD, -List.length_eq_zero_iff, conjP, i1, hai, hm, hz, hr, hwb] <;> (first | omega | ((repeat' (refine And.intro ?_ ?_)) <;> (first | omega | exact decide_eq_false (by omega) | exact decide_eq_true (by omega)))))) ?_
          refine sx hXRl [.F] 4000 rfl (by (simp [-List.getD_eq_getElem?_getD, -List.length_eq_zero_iff, conjP, hm, hcG, hwb] <;> (first | omega | ((repeat' (refine And.intro ?_ ?_)) <;> (first | omega | exact decide_eq_false (by omega) | exact decide_eq_true (by omega)))))) ?_
          refine sx hXRl [.T] 4000 rfl (by (simp [-List.getD_eq_getElem?_getD, -List.length_eq_zero_iff, conjP, addOP] <;> (first | omega | ((repeat' (refine And.intro ?_ ?_)) <;> (first | omega | exact decide_eq_false (by omega) | exact decide_eq_true (by omega)))))) ?_
          (exact ss_end hXRl [0] rfl rfl trivial rfl rfl rfl rfl (by (repeat' (first | exact rfl | exact trivial | exact sim_refl _ | refine And.intro ?_ ?_))) (by (repeat' (first | exact rfl | exact trivial | exact sim_refl _ | refine And.intro ?_ ?_))) (by (repeat' (first | exact rfl | exact trivial | exact sim_refl _ | refine And.intro ?_ ?_))) (by (repeat' (first | exact rfl | exact trivial | exact sim_refl _ | refine And.intro ?_ ?_))))
        · rw [hl_go hz hcF hfl] at e3
          have hfl2 : ¬ (0 : Int) = a7 := by simpa [lst, cntV] using hfl
          have hlen : (0 : Int) ≤ 12 := by decide
          obtain ⟨b1, b2⟩ := class_there hcF (by decide)
          obtain ⟨b3, b4⟩ := block_range hr b1 b2
          have b3' : 0 ≤ blockF a0 a1 a2 a3 a4 a5 a6 a7 a8 (W.getD at'.toNat 0 % 4294967296) := b3
          have hne : (lst (some (([] : List Int) ++ [W.getD at'.toNat 0 % 4294967296]))).length = (lst (none : Option (List Int))).length + 1 := by simp [lst]
          have e6 : 13 - (lst (some (([] : List Int) ++ [W.getD at'.toNat 0 % 4294967296]))).length = 12 - (lst (none : Option (List Int))).length := by rw [hne]; omega
          refine sx hXRl [] 4000 rfl (by (simp [-List.getD_eq_getElem?_getD, -List.length_eq_zero_iff, conjP, i1, hai] <;> (first | omega | ((repeat' (refine And.intro ?_ ?_)) <;> (first | omega | exact decide_eq_false (by omega) | exact decide_eq_true (by omega)))))) ?_
          refine sx hXRl [.T] 4000 rfl (by (simp [-List.getD_eq_getElem?_getD, -List.length_eq_zero_iff, conjP, i1, hai, hm, hz, hr, hwb] <;> (first | omega | ((repeat' (refine And.intro ?_ ?_)) <;> (first | omega | exact decide_eq_false (by omega) | exact decide_eq_true (by omega)))))) ?_
          refine sx hXRl [.F] 4000 rfl (by (simp [-List.getD_eq_getElem?_getD, -List.length_eq_zero_iff, conjP, hm, hcG, hwb] <;> (first | omega | ((repeat' (refine And.intro ?_ ?_)) <;> (first | omega | exact decide_eq_false (by omega) | exact decide_eq_true (by omega)))))) ?_
          refine sx hXRl [.F] 4000 rfl (by (simp [-List.getD_eq_getElem?_getD, -List.length_eq_zero_iff, conjP, hm, hr, hwb, hfl2] <;> (first | omega | ((repeat' (refine And.intro ?_ ?_)) <;> (first | omega | exact decide_eq_false (by omega) | exact decide_eq_true (by omega)))))) ?_
          (simp only [hE]; refine back (some (([] : List Int) ++ [W.getD at'.toNat 0 % 4294967296]), blockV a0 a1 a2 a4 a5 a6 a7 (W.getD at'.toNat 0 % 4294967296)) ⟨b3, ?q1, ?q2, ?q3⟩ ?q4 _ _ _ (sub_of [0, 1, 2, 5] rfl rfl rfl rfl ?tt ?hh (by (repeat' (first | exact rfl | exact trivial | exact sim_refl _ | refine And.intro ?_ ?_))) (by (repeat' (first | exact rfl | exact trivial | exact sim_refl _ | refine And.intro ?_ ?_)))); (case tt => (repeat' (first | exact rfl | exact trivial | exact sim_refl _ | (simp; done) | refine And.intro ?_ ?_))); (case hh => (repeat' (first | exact rfl | exact trivial | exact sim_refl _ | (simp; done) | refine And.intro ?_ ?_))); (case q1 => rw [hW]; exact b4); (case q2 => (show ((lst (some (([] : List Int) ++ [W.getD at'.toNat 0 % 4294967296]))).length : Int) ≤ cntV 1 a5 a7); rw [hne]; omega); (case q3 => rw [e6]; exact e3); (case q4 => dsimp only; omega))
      · have hcG : ¬ classF a0 a1 a2 a3 a4 a5 a6 a7 a8 (W.getD at'.toNat 0 % 4294967296) = 1 := hcF
        rw [hl_form hz hcF] at e3
        subst e3
        refine sx hXRl [] 4000 rfl (by (simp [-List.getD_eq_getElem?_getD, -List.length_eq_zero_iff, conjP, i1, hai] <;> (first | omega | ((repeat' (refine And.intro ?_ ?_)) <;> (first | omega | exact decide_eq_false (by omega) | exact decide_eq_true (by omega)))))) ?_
        refine sx hXRl [.T] 4000 rfl (by (simp [-List.getD_eq_getElem?_getD, -List.length_eq_zero_iff, conjP, i1, hai, hm, hz, hr, hwb] <;> (first | omega | ((repeat' (refine And.intro ?_ ?_)) <;> (first | omega | exact decide_eq_false (by omega) | exact decide_eq_true (by omega)))))) ?_
        refine sx hXRl [.T] 4000 rfl (by (simp [-List.getD_eq_getElem?_getD, -List.length_eq_zero_iff, conjP, addOP, hm, hcG, hwb] <;> (first | omega | ((repeat' (refine And.intro ?_ ?_)) <;> (first | omega | exact decide_eq_false (by omega) | exact decide_eq_true (by omega)))))) ?_
        (exact ss_end hXRl [0] rfl rfl trivial rfl rfl rfl rfl (by (repeat' (first | exact rfl | exact trivial | exact sim_refl _ | refine And.intro ?_ ?_))) (by (repeat' (first | exact rfl | exact trivial | exact sim_refl _ | refine And.intro ?_ ?_))) (by (repeat' (first | exact rfl | exact trivial | exact sim_refl _ | refine And.intro ?_ ?_))) (by (repeat' (first | exact rfl | exact trivial | exact sim_refl _ | refine And.intro ?_ ?_))))
    | some g =>
      dsimp only [rlT, rlH, slV, slE]
      by_cases hz : W.getD at'.toNat 0 % 4294967296 = 0
      · rw [hl_end hz] at e3
        subst e3
        refine sx hXRl [] 4000 rfl (by (simp [-List.getD_eq_getElem?_getD, -List.length_eq_zero_iff, conjP, i1, hai] <;> (first | omega | ((repeat' (refine And.intro ?_ ?_)) <;> (first | omega | exact decide_eq_false (by omega) | exact decide_eq_true (by omega)))))) ?_
        refine sx hXRl [.F] 4000 rfl (by (simp [-List.getD_eq_getElem?_getD, -List.length_eq_zero_iff, conjP, addOP, hm, hz] <;> (first | omega | ((repeat' (refine And.intro ?_ ?_)) <;> (first | omega | exact decide_eq_false (by omega) | exact decide_eq_true (by omega)))))) ?_
        (exact ss_end hXRl [0, 3] rfl rfl trivial rfl rfl rfl rfl (by (repeat' (first | exact rfl | exact trivial | exact sim_refl _ | refine And.intro ?_ ?_))) (by (repeat' (first | exact rfl | exact trivial | exact sim_refl _ | refine And.intro ?_ ?_))) (by (repeat' (first | exact rfl | exact trivial | exact sim_refl _ | refine And.intro ?_ ?_))) (by (repeat' (first | exact rfl | exact trivial | exact sim_refl _ | refine And.intro ?_ ?_))))
      by_cases hcF : classV a5 a7 (W.getD at'.toNat 0 % 4294967296) = 1
      · have hcG : classF a0 a1 a2 a3 a4 a5 a6 a7 a8 (W.getD at'.toNat 0 % 4294967296) = 1 := hcF
        by_cases hfl : ((lst (some g : Option (List Int))).length : Int) = cntV 1 a5 a7
        · rw [hl_over hz hcF hfl] at e3
          subst e3
          have hfl2 : (g.length : Int) = a7 := by simpa [lst, cntV] using hfl
          refine sx hXRl [] 4000 rfl (by (simp [-List.getD_eq_getElem?_getD, -List.length_eq_zero_iff, conjP, i1, hai] <;> (first | omega | ((repeat' (refine And.intro ?_ ?_)) <;> (first | omega | exact decide_eq_false (by omega) | exact decide_eq_true (by omega)))))) ?_
          refine sx hXRl [.T] 4000 rfl (by (simp [-List.getD_eq_getElem?_getD, -List.length_eq_zero_iff, conjP, i1, hai, hm, hz, hr, hwb] <;> (first | omega | ((repeat' (refine And.intro ?_ ?_)) <;> (first | omega | exact decide_eq_false (by omega) | exact decide_eq_true (by omega)))))) ?_
          refine sx hXRl [.F] 4000 rfl (by (simp [-List.getD_eq_getElem?_getD, -List.length_eq_zero_iff, conjP, hm, hcG, hwb] <;> (first | omega | ((repeat' (refine And.intro ?_ ?_)) <;> (first | omega | exact decide_eq_false (by omega) | exact decide_eq_true (by omega)))))) ?_
          refine sx hXRl [.T] 4000 rfl (by (simp [-List.getD_eq_getElem?_getD, -List.length_eq_zero_iff, conjP, addOP, hfl2] <;> (first | omega | ((repeat' (refine And.intro ?_ ?_)) <;> (first | omega | exact decide_eq_false (by omega) | exact decide_eq_true (by omega)))))) ?_
          (exact ss_end hXRl [0] rfl rfl trivial rfl rfl rfl rfl (by (repeat' (first | exact rfl | exact trivial | exact sim_refl _ | refine And.intro ?_ ?_))) (by (repeat' (first | exact rfl | exact trivial | exact sim_refl _ | refine And.intro ?_ ?_))) (by (repeat' (first | exact rfl | exact trivial | exact sim_refl _ | refine And.intro ?_ ?_))) (by (repeat' (first | exact rfl | exact trivial | exact sim_refl _ | refine And.intro ?_ ?_))))
        · rw [hl_go hz hcF hfl] at e3
          have hfl2 : ¬ (g.length : Int) = a7 := by simpa [lst, cntV] using hfl
          have hlen : (g.length : Int) ≤ 12 := Int.le_trans (show (g.length : Int) ≤ cntV 1 a5 a7 from i3) hcn.1
          obtain ⟨b1, b2⟩ := class_there hcF (by decide)
          obtain ⟨b3, b4⟩ := block_range hr b1 b2
          have b3' : 0 ≤ blockF a0 a1 a2 a3 a4 a5 a6 a7 a8 (W.getD at'.toNat 0 % 4294967296) := b3
          have hne : (lst (some (g ++ [W.getD at'.toNat 0 % 4294967296]))).length = (lst (some g : Option (List Int))).length + 1 := by simp [lst]
          have e6 : 13 - (lst (some (g ++ [W.getD at'.toNat 0 % 4294967296]))).length = 12 - (lst (some g : Option (List Int))).length := by rw [hne]; omega
          refine sx hXRl [] 4000 rfl (by (simp [-List.getD_eq_getElem?_getD, -List.length_eq_zero_iff, conjP, i1, hai] <;> (first | omega | ((repeat' (refine And.intro ?_ ?_)) <;> (first | omega | exact decide_eq_false (by omega) | exact decide_eq_true (by omega)))))) ?_
          refine sx hXRl [.T] 4000 rfl (by (simp [-List.getD_eq_getElem?_getD, -List.length_eq_zero_iff, conjP, i1, hai, hm, hz, hr, hwb] <;> (first | omega | ((repeat' (refine And.intro ?_ ?_)) <;> (first | omega | exact decide_eq_false (by omega) | exact decide_eq_true (by omega)))))) ?_
          refine sx hXRl [.F] 4000 rfl (by (simp [-List.getD_eq_getElem?_getD, -List.length_eq_zero_iff, conjP, hm, hcG, hwb] <;> (first | omega | ((repeat' (refine And.intro ?_ ?_)) <;> (first | omega | exact decide_eq_false (by omega) | exact decide_eq_true (by omega)))))) ?_
          refine sx hXRl [.F] 4000 rfl (by (simp [-List.getD_eq_getElem?_getD, -List.length_eq_zero_iff, conjP, hm, hr, hwb, hfl2] <;> (first | omega | ((repeat' (refine And.intro ?_ ?_)) <;> (first | omega | exact decide_eq_false (by omega) | exact decide_eq_true (by omega)))))) ?_
          (simp only [hE]; refine back (some (g ++ [W.getD at'.toNat 0 % 4294967296]), blockV a0 a1 a2 a4 a5 a6 a7 (W.getD at'.toNat 0 % 4294967296)) ⟨b3, ?q1, ?q2, ?q3⟩ ?q4 _ _ _ (sub_of [0, 1, 2, 5] rfl rfl rfl rfl ?tt ?hh (by (repeat' (first | exact rfl | exact trivial | exact sim_refl _ | refine And.intro ?_ ?_))) (by (repeat' (first | exact rfl | exact trivial | exact sim_refl _ | refine And.intro ?_ ?_)))); (case tt => (repeat' (first | exact rfl | exact trivial | exact sim_refl _ | (simp; done) | refine And.intro ?_ ?_))); (case hh => (repeat' (first | exact rfl | exact trivial | exact sim_refl _ | (simp; done) | refine And.intro ?_ ?_))); (case q1 => rw [hW]; exact b4); (case q2 => (show ((lst (some (g ++ [W.getD at'.toNat 0 % 4294967296]))).length : Int) ≤ cntV 1 a5 a7); rw [hne]; omega); (case q3 => rw [e6]; exact e3); (case q4 => dsimp only; omega))
      · have hcG : ¬ classF a0 a1 a2 a3 a4 a5 a6 a7 a8 (W.getD at'.toNat 0 % 4294967296) = 1 := hcF
        rw [hl_form hz hcF] at e3
        subst e3
        refine sx hXRl [] 4000 rfl (by (simp [-List.getD_eq_getElem?_getD, -List.length_eq_zero_iff, conjP, i1, hai] <;> (first | omega | ((repeat' (refine And.intro ?_ ?_)) <;> (first | omega | exact decide_eq_false (by omega) | exact decide_eq_true (by omega)))))) ?_
        refine sx hXRl [.T] 4000 rfl (by (simp [-List.getD_eq_getElem?_getD, -List.length_eq_zero_iff, conjP, i1, hai, hm, hz, hr, hwb] <;> (first | omega | ((repeat' (refine And.intro ?_ ?_)) <;> (first | omega | exact decide_eq_false (by omega) | exact decide_eq_true (by omega)))))) ?_
        refine sx hXRl [.T] 4000 rfl (by (simp [-List.getD_eq_getElem?_getD, -List.length_eq_zero_iff, conjP, addOP, hm, hcG, hwb] <;> (first | omega | ((repeat' (refine And.intro ?_ ?_)) <;> (first | omega | exact decide_eq_false (by omega) | exact decide_eq_true (by omega)))))) ?_
        (exact ss_end hXRl [0] rfl rfl trivial rfl rfl rfl rfl (by (repeat' (first | exact rfl | exact trivial | exact sim_refl _ | refine And.intro ?_ ?_))) (by (repeat' (first | exact rfl | exact trivial | exact sim_refl _ | refine And.intro ?_ ?_))) (by (repeat' (first | exact rfl | exact trivial | exact sim_refl _ | refine And.intro ?_ ?_))) (by (repeat' (first | exact rfl | exact trivial | exact sim_refl _ | refine And.intro ?_ ?_))))
set_option maxHeartbeats 8000000 in
theorem rl_fn1 (hr : rightB a0 a1 a2 a3 a4 a5 a6 a7 a8 = true) (hW : (W.length : Int) = sizeV a0 a1 a2 a4 a5 a6 a7) (hWn : ∀ x ∈ W, 0 ≤ x ∧ x < 18446744073709551616) : Gives Tryd.prog 43 [C9 a0 a1 a2 a3 a4 a5 a6 a7 a8, .slice 0 0 W.length W.length, .int .i64 1] [.obj (.ints .u64 W 43)] (Is (rlV (hlR a0 a1 a2 a4 a5 a6 a7 1 W)) (rlL (.ints .u64 W 43) (hlR a0 a1 a2 a4 a5 a6 a7 1 W))) := by
  refine gives_x hXRl (fn := Tryd.f43) rfl rfl rfl rfl fun ρ w => ?_
  have key := rl_loop1 hr hW hWn (ρ := ρ) (w := w)
  refine sxb hXRl [.r 7] [] 4000 rfl (by (simp [-List.getD_eq_getElem?_getD, -List.length_eq_zero_iff, conjP] <;> (first | omega | ((repeat' (refine And.intro ?_ ?_)) <;> (first | omega | exact decide_eq_false (by omega) | exact decide_eq_true (by omega)))))) ?_
  refine sxb hXRl [.r 7] [.F] 4000 rfl (by (simp [-List.getD_eq_getElem?_getD, -List.length_eq_zero_iff, conjP, addOP, hr] <;> (first | omega | ((repeat' (refine And.intro ?_ ?_)) <;> (first | omega | exact decide_eq_false (by omega) | exact decide_eq_true (by omega)))))) ?_
  refine sxb hXRl [.r 7] [.F] 4000 rfl (by (simp [-List.getD_eq_getElem?_getD, -List.length_eq_zero_iff, conjP, addOP] <;> (first | omega | ((repeat' (refine And.intro ?_ ?_)) <;> (first | omega | exact decide_eq_false (by omega) | exact decide_eq_true (by omega)))))) ?_
  refine sxb hXRl [.r 7] [.F] 4000 rfl (by (simp [-List.getD_eq_getElem?_getD, -List.length_eq_zero_iff, conjP, hr] <;> (first | omega | ((repeat' (refine And.intro ?_ ?_)) <;> (first | omega | exact decide_eq_false (by omega) | exact decide_eq_true (by omega)))))) ?_
  refine sxb hXRl [.r 7] [.F] 4000 rfl (by (simp [-List.getD_eq_getElem?_getD, -List.length_eq_zero_iff, conjP, addOP, hW] <;> (first | omega | ((repeat' (refine And.intro ?_ ?_)) <;> (first | omega | exact decide_eq_false (by omega) | exact decide_eq_true (by omega)))))) ?_
  (refine ss_sub hXRl (T' := rlT0 W 1) (H' := rlH a0 a1 a2 a3 a4 a5 a6 a7 a8 W none) [0, 1, 2, 9] rfl rfl rfl rfl (by (repeat' (first | exact rfl | exact trivial | exact sim_refl _ | refine And.intro ?_ ?_))) (by (repeat' (first | exact rfl | exact trivial | exact sim_refl _ | refine And.intro ?_ ?_))) (by (repeat' (first | exact rfl | exact trivial | exact sim_refl _ | refine And.intro ?_ ?_))) (by (repeat' (first | exact rfl | exact trivial | exact sim_refl _ | refine And.intro ?_ ?_))) ?_; exact key)

end Go.Proofs.YtfdkaakllceebaaDoor
