/- The chapter's example, and the world as it is made in any heap. -/
import Derived.Test.YtmghcelohnlceaaGreatDoorWriteRow
import Derived.Test.YtmghcelohnlceaaGreatDoorAsVar
namespace Go.Proofs.YtmghcelohnlceaaGreatDoor
open Go Go.Hx
set_option maxRecDepth 8000
/-- The world as it is made, in any heap. -/
def bgN (n : Nat) (R : Int) (W : List Int) (st : Int) : List HE := [.obj (xO R (n + 1) (n + 3) (n + 5) 0), AOx (n + 2) W st 2 7 (bornW 0) true, WO W, ROx (n + 4) W st 2 7 (bornW 0) true, WO W, .obj (kO (n + 6) (n + 7) (n + 8) (n + 9)), .obj cl0, .obj cl0, .obj cl0, .obj cl0]
def begunS : Hx.Spec := fun args H => match args with
  | [.int .i64 r] => match nums[H.length]? with
    | some n => some ([], .ptr n 0, H ++ bgN n (cAnd 7 r) (bgW (cAnd 7 r)) (bgS (cAnd 7 r)))
    | _ => none
  | _ => none
theorem begunS_ok {args : List SV} {H : List HE} {ob : List Prop} {V : SV} {L : List HE} (hs : begunS args H = some (ob, V, L)) (_ : AllP ob) : Gives Tryz.prog 10 args H (Is V L) := by
  unfold begunS at hs
  split at hs
  · split at hs
    case h_2 => simp at hs
    rename_i r _ n e0
    have e0' := nums_get _ _ e0
    subst e0'
    simp only [Option.some.injEq, Prod.mk.injEq] at hs
    obtain ⟨rfl, rfl, rfl⟩ := hs
    exact frame0 (H := H) ⟨_, hTE⟩ (begun_fn r) rfl rfl
  · simp at hs
def ctAw (q : Nat) : Nat → Option Hx.Spec
  | 10 => some (begunS)
  | 22 => some (pureS ctlKS)
  | 36 => some (pureS runpkS)
  | 13 => some (wStS q)
  | 15 => some (arWordsS)
  | 17 => some (topS)
  | _ => none
theorem ctAw_ok (q : Nat) : ∀ f s args H ob V L, ctAw q f = some s → s args H = some (ob, V, L) → AllP ob → Gives Tryz.prog f args H (Is V L) := by
  intro f s args H ob V L h hs ho
  unfold ctAw at h
  split at h
  · simp at h; subst h; exact begunS_ok hs ho
  · simp at h; subst h; exact pureS_ok ⟨_, hTE⟩ (ctlKS_ok) hs ho
  · simp at h; subst h; exact pureS_ok ⟨_, hTE⟩ (runpkS_ok) hs ho
  · simp at h; subst h; exact wStS_ok hs ho
  · simp at h; subst h; exact arWordsS_ok hs ho
  · simp at h; subst h; exact topS_ok hs ho
  · simp at h
noncomputable def XAw (q : Nat) : Tabs := tabs tr ft xt (fun _ => none) (ctAw q) 20
theorem hXAw (q : Nat) : TOk Tryz.prog (XAw q) := ⟨hTE, hFT, (ctAw_ok q), hXT, fun t ks h => by simp [XAw, tabs] at h, mixed⟩
def awT (i : Nat) : List (Nat × SV) := [(1, .ptr 0 0), (2, .ptr 10 0), (3, .int .i64 (i : Int))]
def awO (R : Int) (A : HE) (V W : List Int) (st : Int) (w : SO) : List HE := [.obj (xO R 1 3 5 0), A, WO V, ROx 4 W st 2 7 281474976710656 true, WO W, .obj (kO 6 7 8 9), .obj cl0, .obj cl0, .obj cl0, .obj cl0, .obj w, wdE [5, 6]]
def awH (R : Int) (W : List Int) (st : Int) : Nat → List HE
  | 0 => awO R (AOx 2 W st 2 7 281474976710656 true) W W st (wrO R 0 1 0 0 0 0 .niliface 11 2 0 false)
  | 1 => awO R (AOx 2 W (st + 1) 1 7 281474976710656 false) W W st (wrO R 0 2 281474976710656 0 0 (st + 1) .niliface 11 2 0 false)
  | 2 => awO R (AOx 2 (W.set 7 422212465065984) (st + 1 + 1) 3 7 422212465065984 true) (W.set 7 422212465065984) W st (wrO R 0 3 281474976710656 0 0 (st + 1) .niliface 11 2 0 true)
  | 3 => awO R (AOx 2 ((W.set 7 422212465065984).set 12 5) (st + 1 + 1 + 1) 2 12 5 true) ((W.set 7 422212465065984).set 12 5) W st (wrO R 0 3 281474976710656 0 0 (st + 1) .niliface 11 2 1 true)
  | _ => awO R (AOx 2 (((W.set 7 422212465065984).set 12 5).set 13 6) (st + 1 + 1 + 1 + 1) 2 13 6 true) (((W.set 7 422212465065984).set 12 5).set 13 6) W st (wrO R 0 4 281474976710656 0 0 (st + 1) .niliface 11 2 2 true)
theorem awake_key {R : Int} {W : List Int} {st : Int} (c1 : 1 ≤ R) (c2 : R ≤ 8) (hl : W.length = 21) (hs : 0 ≤ st) (hs' : st < 1000) (w7 : W.getD 7 0 = 281474976710656) {ρ : Nat → Nat × Nat} {w : World} :
    SS (hXAw 4) (At ρ w) (Is .tt []) ⟨[], [], Tryz.f9, Tryz.f9.ntmps, [], contF Tryz.f9 5 [], [(1, .ptr 0 0), (2, .ptr 10 0)], awH R W st 0⟩ := by
  have hX := hXAw 4
  have f1 : liW 281474976710656 = true := by decide
  have f2 : epW 281474976710656 = 0 := by decide
  have f3 : geW 281474976710656 = 0 := by decide
  have f4 : buW 281474976710656 = false := by decide
  have f5 : busyW 281474976710656 = 422212465065984 := by decide
  have f6 : writW 422212465065984 = 281474976776192 := by decide
  have w7t : W.getD (Int.toNat 7) 0 = 281474976710656 := w7
  have h7 : 7 < W.length := by omega
  have hst1 : st < 9000000000000000000 := by omega
  have hr := csR c1 c2
  refine sxb hX [.l] [] 4000 rfl trivial ?_
  refine ss_sub hX (T' := awT 0) (H' := awH R W st 0) [0, 1, 2, 3, 4, 5, 6, 7, 8, 9, 10, 11] rfl rfl rfl rfl (by (repeat' (first | exact rfl | exact trivial | exact sim_refl _ | refine And.intro ?_ ?_))) (by (repeat' (first | exact rfl | exact trivial | exact sim_refl _ | refine And.intro ?_ ?_))) (by (repeat' (first | exact rfl | exact trivial | exact sim_refl _ | refine And.intro ?_ ?_))) (by (repeat' (first | exact rfl | exact trivial | exact sim_refl _ | refine And.intro ?_ ?_))) ?_
  refine ss_loop hX awT (awH R W st) (fun i => i ≤ 4) (fun i => 4 - i) 0 (by decide) ?_
  intro i hi I back
  have hi : i ≤ 4 := hi
  have hc : i = 0 ∨ i = 1 ∨ i = 2 ∨ i = 3 ∨ i = 4 := by omega
  rcases hc with rfl | rfl | rfl | rfl | rfl
  · dsimp only [awH, awT, awO]
    refine sx hX [] 4000 rfl (by (simp [-List.getD_eq_getElem?_getD, -List.length_eq_zero_iff, conjP] <;> (first | omega | ((repeat' (refine And.intro ?_ ?_)) <;> (first | omega | exact decide_eq_false (by omega) | exact decide_eq_true (by omega)))))) ?_
    refine sx hX [.T] 4000 rfl (by (simp [-List.getD_eq_getElem?_getD, -List.length_eq_zero_iff, conjP, c1, c2, hl, hs, w7, f1, f2, f3, f4] <;> (first | omega | ((repeat' (refine And.intro ?_ ?_)) <;> (first | omega | exact decide_eq_false (by omega) | exact decide_eq_true (by omega)))))) ?_
    (try simp only [w7]; refine back 1 (by decide) (by decide) _ _ _ (sub_of [0, 1, 2, 3, 4, 5, 6, 7, 8, 9, 10, 11] rfl rfl rfl rfl ?tt ?hh (by (repeat' (first | exact rfl | exact trivial | exact sim_refl _ | refine And.intro ?_ ?_))) (by (repeat' (first | exact rfl | exact trivial | exact sim_refl _ | refine And.intro ?_ ?_)))); (case tt => (repeat' (first | exact rfl | exact trivial | exact sim_refl _ | refine And.intro ?_ ?_)); done); (case hh => (repeat' (first | exact rfl | exact trivial | exact sim_refl _ | refine And.intro ?_ ?_)); done))
  · dsimp only [awH, awT, awO]
    refine sx hX [] 4000 rfl (by (simp [-List.getD_eq_getElem?_getD, -List.length_eq_zero_iff, conjP] <;> (first | omega | ((repeat' (refine And.intro ?_ ?_)) <;> (first | omega | exact decide_eq_false (by omega) | exact decide_eq_true (by omega)))))) ?_
    refine sx hX [.T] 4000 rfl (by (simp [-List.getD_eq_getElem?_getD, -List.length_eq_zero_iff, conjP, c1, c2, hl, w7] <;> (first | omega | ((repeat' (refine And.intro ?_ ?_)) <;> (first | omega | exact decide_eq_false (by omega) | exact decide_eq_true (by omega)))))) ?_
    (try simp only [f5]; refine back 2 (by decide) (by decide) _ _ _ (sub_of [0, 1, 2, 3, 4, 5, 6, 7, 8, 9, 10, 11] rfl rfl rfl rfl ?tt ?hh (by (repeat' (first | exact rfl | exact trivial | exact sim_refl _ | refine And.intro ?_ ?_))) (by (repeat' (first | exact rfl | exact trivial | exact sim_refl _ | refine And.intro ?_ ?_)))); (case tt => (repeat' (first | exact rfl | exact trivial | exact sim_refl _ | refine And.intro ?_ ?_)); done); (case hh => (repeat' (first | exact rfl | exact trivial | exact sim_refl _ | refine And.intro ?_ ?_)); done))
  · dsimp only [awH, awT, awO]
    refine sx hX [] 4000 rfl (by (simp [-List.getD_eq_getElem?_getD, -List.length_eq_zero_iff, conjP] <;> (first | omega | ((repeat' (refine And.intro ?_ ?_)) <;> (first | omega | exact decide_eq_false (by omega) | exact decide_eq_true (by omega)))))) ?_
    refine sx hX [.T] 4000 rfl (by (simp [-List.getD_eq_getElem?_getD, -List.length_eq_zero_iff, conjP, c1, c2, hl] <;> (first | omega | ((repeat' (refine And.intro ?_ ?_)) <;> (first | omega | exact decide_eq_false (by omega) | exact decide_eq_true (by omega)))))) ?_
    (try simp only [f3]; refine back 3 (by decide) (by decide) _ _ _ (sub_of [0, 1, 2, 3, 4, 5, 6, 7, 8, 9, 10, 11] rfl rfl rfl rfl ?tt ?hh (by (repeat' (first | exact rfl | exact trivial | exact sim_refl _ | refine And.intro ?_ ?_))) (by (repeat' (first | exact rfl | exact trivial | exact sim_refl _ | refine And.intro ?_ ?_)))); (case tt => (repeat' (first | exact rfl | exact trivial | exact sim_refl _ | refine And.intro ?_ ?_)); done); (case hh => (repeat' (first | exact rfl | exact trivial | exact sim_refl _ | refine And.intro ?_ ?_)); done))
  · dsimp only [awH, awT, awO]
    refine sx hX [] 4000 rfl (by (simp [-List.getD_eq_getElem?_getD, -List.length_eq_zero_iff, conjP] <;> (first | omega | ((repeat' (refine And.intro ?_ ?_)) <;> (first | omega | exact decide_eq_false (by omega) | exact decide_eq_true (by omega)))))) ?_
    refine sx hX [.T] 4000 rfl (by (simp [-List.getD_eq_getElem?_getD, -List.length_eq_zero_iff, conjP, c1, c2, hl] <;> (first | omega | ((repeat' (refine And.intro ?_ ?_)) <;> (first | omega | exact decide_eq_false (by omega) | exact decide_eq_true (by omega)))))) ?_
    (try simp only [f3]; refine back 4 (by decide) (by decide) _ _ _ (sub_of [0, 1, 2, 3, 4, 5, 6, 7, 8, 9, 10, 11] rfl rfl rfl rfl ?tt ?hh (by (repeat' (first | exact rfl | exact trivial | exact sim_refl _ | refine And.intro ?_ ?_))) (by (repeat' (first | exact rfl | exact trivial | exact sim_refl _ | refine And.intro ?_ ?_)))); (case tt => (repeat' (first | exact rfl | exact trivial | exact sim_refl _ | refine And.intro ?_ ?_)); done); (case hh => (repeat' (first | exact rfl | exact trivial | exact sim_refl _ | refine And.intro ?_ ?_)); done))
  · dsimp only [awH, awT, awO]
    have gl : ((((W.set 7 422212465065984).set 12 5).set 13 6).set 7 281474976776192).getD 7 0 = 281474976776192 := by
      rw [set_getD, if_pos ⟨rfl, by simp only [List.length_set]; omega⟩]
    have g9 : geW 281474976776192 = 1 := by decide
    refine sx hX [] 4000 rfl (by (simp [-List.getD_eq_getElem?_getD, -List.length_eq_zero_iff, conjP] <;> (first | omega | ((repeat' (refine And.intro ?_ ?_)) <;> (first | omega | exact decide_eq_false (by omega) | exact decide_eq_true (by omega)))))) ?_
    refine sx hX [.F] 4000 rfl (by (simp [-List.getD_eq_getElem?_getD, -List.length_eq_zero_iff, conjP, addOP] <;> (first | omega | ((repeat' (refine And.intro ?_ ?_)) <;> (first | omega | exact decide_eq_false (by omega) | exact decide_eq_true (by omega)))))) ?_
    refine sx hX [.F, .K, .K, .T] 4000 rfl (by (simp [-List.getD_eq_getElem?_getD, -List.length_eq_zero_iff, conjP, getH, HE.so, c1, c2, hl, f1, f3, f5, f6, gl, cellOff] <;> (first | omega | ((repeat' (refine And.intro ?_ ?_)) <;> (first | omega | exact decide_eq_false (by omega) | exact decide_eq_true (by omega)))))) ?_
    (refine ss_end hX [] rfl rfl trivial rfl rfl rfl rfl ?hv (by (repeat' (first | exact rfl | exact trivial | exact sim_refl _ | refine And.intro ?_ ?_))) (by (repeat' (first | exact rfl | exact trivial | exact sim_refl _ | refine And.intro ?_ ?_))) (by (repeat' (first | exact rfl | exact trivial | exact sim_refl _ | refine And.intro ?_ ?_))); (case hv => (have q : cellOff (Int.toNat 7) 1 0 = 7 := rfl); simp only [q, f5, f6, gl, g9]; exact rfl))
set_option maxHeartbeats 8000000 in
theorem awakeS_fn : Gives Tryz.prog 9 [] [] (Is .tt []) := by
  have hX := hXAw 4
  obtain ⟨c1, c2⟩ := cAnd7 1
  have hl := bgW_len (cAnd 7 1)
  have hb : bornW 0 = 281474976710656 := by decide
  have hst := mkA_st (csR c1 c2)
  have hs : 0 ≤ bgS (cAnd 7 1) := by unfold bgS; omega
  have hs' : bgS (cAnd 7 1) < 1000 := by unfold bgS; omega
  have w7 : (bgW (cAnd 7 1)).getD 7 0 = 281474976710656 := by
    have h7 : (mkA 1 4 1 4 4 1 6 0 (cAnd 7 1)).W.length = 21 := by rw [mkA_len]; decide
    unfold bgW
    rw [set_getD, if_pos ⟨rfl, by omega⟩, hb]
  refine gives_x hX (fn := Tryz.f9) rfl rfl rfl rfl fun ρ w => ?_
  refine sxb hX [.r 5] [] 4000 rfl (by (simp [-List.getD_eq_getElem?_getD, -List.length_eq_zero_iff, conjP, getH, HE.so, c1, c2] <;> (first | omega | ((repeat' (refine And.intro ?_ ?_)) <;> (first | omega | exact decide_eq_false (by omega) | exact decide_eq_true (by omega)))))) ?_
  refine sxb hX [.r 5] [.F] 4000 rfl (by (simp [-List.getD_eq_getElem?_getD, -List.length_eq_zero_iff, conjP, addOP] <;> (first | omega | ((repeat' (refine And.intro ?_ ?_)) <;> (first | omega | exact decide_eq_false (by omega) | exact decide_eq_true (by omega)))))) ?_
  refine sxb hX [.r 5] [.F] 4000 rfl (by (simp [-List.getD_eq_getElem?_getD, -List.length_eq_zero_iff, conjP, addOP] <;> (first | omega | ((repeat' (refine And.intro ?_ ?_)) <;> (first | omega | exact decide_eq_false (by omega) | exact decide_eq_true (by omega)))))) ?_
  refine sxb hX [.r 5] [.F] 4000 rfl (by (simp [-List.getD_eq_getElem?_getD, -List.length_eq_zero_iff, conjP, getH, HE.so] <;> (first | omega | ((repeat' (refine And.intro ?_ ?_)) <;> (first | omega | exact decide_eq_false (by omega) | exact decide_eq_true (by omega)))))) ?_
  (refine ss_sub hX (T' := [(1, .ptr 0 0), (2, .ptr 10 0)]) (H' := awH (cAnd 7 1) (bgW (cAnd 7 1)) (bgS (cAnd 7 1)) 0) [0, 1, 2, 3, 4, 5, 6, 7, 8, 9, 17, 16] rfl rfl rfl rfl ?tt ?hh (by (repeat' (first | exact rfl | exact trivial | exact sim_refl _ | refine And.intro ?_ ?_))) (by (repeat' (first | exact rfl | exact trivial | exact sim_refl _ | refine And.intro ?_ ?_))) ?_; (case tt => (repeat' (first | exact rfl | exact trivial | exact sim_refl _ | refine And.intro ?_ ?_)); done); (case hh => simp only [hb]; (repeat' (first | exact rfl | exact trivial | exact sim_refl _ | refine And.intro ?_ ?_)); done); exact awake_key c1 c2 hl hs hs' w7)
def awSS : List SV → Option (List Prop × SV)
  | [] => some ([], .tt)
  | _ => none
theorem awSS_ok : PureOk 9 awSS := by
  intro args ob V hs ho
  unfold awSS at hs
  split at hs
  · simp only [Option.some.injEq, Prod.mk.injEq] at hs
    obtain ⟨rfl, rfl⟩ := hs
    exact ⟨rfl, rfl, awakeS_fn⟩
  · simp at hs
end Go.Proofs.YtmghcelohnlceaaGreatDoor
