/- Contracts of what puts control words together, and takes them apart, for any word. -/
import Derived.Test.YtkkddjchkkaagaaGreatDoorBits
namespace Go.Proofs.YtkkddjchkkaagaaGreatDoor
open Go Go.Hx
set_option maxRecDepth 8000
def ctCt : Nat → Option Hx.Spec
  | 195 => some (pureS getS)
  | 147 => some (pureS setS)
  | _ => none
theorem ctCt_ok : ∀ f s args H ob V L, ctCt f = some s → s args H = some (ob, V, L) → AllP ob → Gives Tryz.prog f args H (Is V L) := by
  intro f s args H ob V L h hs ho
  unfold ctCt at h
  split at h
  · simp at h; subst h; exact pureS_ok ⟨_, hTE⟩ (getS_ok) hs ho
  · simp at h; subst h; exact pureS_ok ⟨_, hTE⟩ (setS_ok) hs ho
  · simp at h
noncomputable def XCt : Tabs := tabs tr ft xt (fun _ => none) ctCt 0
theorem hXCt : TOk Tryz.prog (XCt) := ⟨hTE, hFT, ctCt_ok, hXT, fun t ks h => by simp [XCt, tabs] at h, mixed⟩
theorem wrap_u64 (n : Int) : IntKind.u64.wrap n = n % 18446744073709551616 := by simp [IntKind.wrap, IntKind.bits, IntKind.signed]
def epW (w : Int) : Int := w / 562949953421312 % 32768
def geW (w : Int) : Int := w / 65536 % 2147483648
def blW (w : Int) : Int := w % 65536
def liW (w : Int) : Bool := w / 281474976710656 % 2 == 1
def buW (w : Int) : Bool := w / 140737488355328 % 2 == 1
def ctV (w : Int) : SV := .agg [.int .i64 (epW w), .int .i64 (geW w), .int .i64 (blW w), .bool (liW w), .bool (buW w)]
def upP : Nat → Int
  | 0 => 0
  | 1 => 16
  | 2 => 47
  | 3 => 48
  | 4 => 49
  | _ => 64
def upF (w : Int) : Nat → Int
  | 0 => IntKind.i64.wrap (getV w 0 16)
  | 1 => IntKind.i64.wrap (getV w 16 31)
  | 2 => IntKind.i64.wrap (getV w 47 1)
  | 3 => IntKind.i64.wrap (getV w 48 1)
  | _ => IntKind.i64.wrap (getV w 49 15)
def upN (w : Int) (i : Nat) : List Int := [if 0 < i then upF w 0 else 0, if 1 < i then upF w 1 else 0, if 2 < i then upF w 2 else 0, if 3 < i then upF w 3 else 0, if 4 < i then upF w 4 else 0]
def upT (w : Int) (i : Nat) : List (Nat × SV) := [(0, .int .u64 w), (2, .ptr 0 0), (4, .ptr 1 0), (5, .ptr 2 0), (6, .int .i64 (upP i)), (13, .int .i64 (i : Int))]
def upH (w : Int) (i : Nat) : List HE := [.obj (.cells [.int .i64 0, .int .i64 0, .int .i64 0, .ff, .ff] 82), .obj (.ints .i64 [16, 31, 1, 1, 15] 235), .obj (.ints .i64 (upN w i) 235)]
set_option maxHeartbeats 4000000 in
theorem unpk_fn {w : Int} (h0 : 0 ≤ w) (h1 : w < 18446744073709551616) : Gives Tryz.prog 174 [.int .u64 w] [] (Is (ctV w) []) := by
  have f0 : upF w 0 = blW w := by show IntKind.i64.wrap (w / 2 ^ 0 % 2 ^ 16) = _; rw [IntKind.wrap_i64]; unfold blW; omega
  have f1 : upF w 1 = geW w := by show IntKind.i64.wrap (w / 2 ^ 16 % 2 ^ 31) = _; rw [IntKind.wrap_i64]; unfold geW; omega
  have f2 : upF w 2 = w / 140737488355328 % 2 := by show IntKind.i64.wrap (w / 2 ^ 47 % 2 ^ 1) = _; rw [IntKind.wrap_i64]; omega
  have f3 : upF w 3 = w / 281474976710656 % 2 := by show IntKind.i64.wrap (w / 2 ^ 48 % 2 ^ 1) = _; rw [IntKind.wrap_i64]; omega
  have f4 : upF w 4 = epW w := by show IntKind.i64.wrap (w / 2 ^ 49 % 2 ^ 15) = _; rw [IntKind.wrap_i64]; unfold epW; omega
  have ul : ∀ i, (upN w i).length = 5 := fun _ => rfl
  refine gives_x hXCt (fn := Tryz.f174) rfl rfl rfl rfl fun ρ w' => ?_
  refine sxb hXCt [.l] [.F, .F] 4000 rfl (by simp [conjP]) ?_
  refine ss_sub hXCt (T' := upT w 0) (H' := upH w 0) [0, 5, 6] rfl rfl rfl rfl (by (repeat' (first | exact rfl | exact trivial | exact sim_refl _ | refine And.intro ?_ ?_))) (by (repeat' (first | exact rfl | exact trivial | exact sim_refl _ | refine And.intro ?_ ?_))) (by (repeat' (first | exact rfl | exact trivial | exact sim_refl _ | refine And.intro ?_ ?_))) (by (repeat' (first | exact rfl | exact trivial | exact sim_refl _ | refine And.intro ?_ ?_))) ?_
  refine ss_loop hXCt (upT w) (upH w) (fun i => i ≤ 5) (fun i => 5 - i) 0 (by decide) ?_
  intro i hi I back
  have hi : i ≤ 5 := hi
  have hc : i = 0 ∨ i = 1 ∨ i = 2 ∨ i = 3 ∨ i = 4 ∨ i = 5 := by omega
  rcases hc with rfl | rfl | rfl | rfl | rfl | rfl
  · refine sx hXCt [] 400 rfl (by (simp [-List.getD_eq_getElem?_getD, -List.length_eq_zero_iff, conjP])) ?_
    refine sx hXCt [.T] 400 rfl (by (simp [-List.getD_eq_getElem?_getD, -List.length_eq_zero_iff, conjP, h0, h1, ul, List.getD_cons_zero, upP])) ?_
    (refine back 1 (by decide) (by decide) _ _ _ (sub_of [0, 1, 2] rfl rfl rfl rfl (by (repeat' (first | exact rfl | exact trivial | exact sim_refl _ | refine And.intro ?_ ?_))) (by (repeat' (first | exact rfl | exact trivial | exact sim_refl _ | refine And.intro ?_ ?_))) (by (repeat' (first | exact rfl | exact trivial | exact sim_refl _ | refine And.intro ?_ ?_))) (by (repeat' (first | exact rfl | exact trivial | exact sim_refl _ | refine And.intro ?_ ?_)))))
  · refine sx hXCt [] 400 rfl (by (simp [-List.getD_eq_getElem?_getD, -List.length_eq_zero_iff, conjP])) ?_
    refine sx hXCt [.T] 400 rfl (by (simp [-List.getD_eq_getElem?_getD, -List.length_eq_zero_iff, conjP, h0, h1, ul, List.getD_cons_zero, List.getD_cons_succ, upP])) ?_
    (refine back 2 (by decide) (by decide) _ _ _ (sub_of [0, 1, 2] rfl rfl rfl rfl (by (repeat' (first | exact rfl | exact trivial | exact sim_refl _ | refine And.intro ?_ ?_))) (by (repeat' (first | exact rfl | exact trivial | exact sim_refl _ | refine And.intro ?_ ?_))) (by (repeat' (first | exact rfl | exact trivial | exact sim_refl _ | refine And.intro ?_ ?_))) (by (repeat' (first | exact rfl | exact trivial | exact sim_refl _ | refine And.intro ?_ ?_)))))
  · refine sx hXCt [] 400 rfl (by (simp [-List.getD_eq_getElem?_getD, -List.length_eq_zero_iff, conjP])) ?_
    refine sx hXCt [.T] 400 rfl (by (simp [-List.getD_eq_getElem?_getD, -List.length_eq_zero_iff, conjP, h0, h1, ul, List.getD_cons_zero, List.getD_cons_succ, upP])) ?_
    (refine back 3 (by decide) (by decide) _ _ _ (sub_of [0, 1, 2] rfl rfl rfl rfl (by (repeat' (first | exact rfl | exact trivial | exact sim_refl _ | refine And.intro ?_ ?_))) (by (repeat' (first | exact rfl | exact trivial | exact sim_refl _ | refine And.intro ?_ ?_))) (by (repeat' (first | exact rfl | exact trivial | exact sim_refl _ | refine And.intro ?_ ?_))) (by (repeat' (first | exact rfl | exact trivial | exact sim_refl _ | refine And.intro ?_ ?_)))))
  · refine sx hXCt [] 400 rfl (by (simp [-List.getD_eq_getElem?_getD, -List.length_eq_zero_iff, conjP])) ?_
    refine sx hXCt [.T] 400 rfl (by (simp [-List.getD_eq_getElem?_getD, -List.length_eq_zero_iff, conjP, h0, h1, ul, List.getD_cons_zero, List.getD_cons_succ, upP])) ?_
    (refine back 4 (by decide) (by decide) _ _ _ (sub_of [0, 1, 2] rfl rfl rfl rfl (by (repeat' (first | exact rfl | exact trivial | exact sim_refl _ | refine And.intro ?_ ?_))) (by (repeat' (first | exact rfl | exact trivial | exact sim_refl _ | refine And.intro ?_ ?_))) (by (repeat' (first | exact rfl | exact trivial | exact sim_refl _ | refine And.intro ?_ ?_))) (by (repeat' (first | exact rfl | exact trivial | exact sim_refl _ | refine And.intro ?_ ?_)))))
  · refine sx hXCt [] 400 rfl (by (simp [-List.getD_eq_getElem?_getD, -List.length_eq_zero_iff, conjP])) ?_
    refine sx hXCt [.T] 400 rfl (by (simp [-List.getD_eq_getElem?_getD, -List.length_eq_zero_iff, conjP, h0, h1, ul, List.getD_cons_zero, List.getD_cons_succ, upP])) ?_
    (refine back 5 (by decide) (by decide) _ _ _ (sub_of [0, 1, 2] rfl rfl rfl rfl (by (repeat' (first | exact rfl | exact trivial | exact sim_refl _ | refine And.intro ?_ ?_))) (by (repeat' (first | exact rfl | exact trivial | exact sim_refl _ | refine And.intro ?_ ?_))) (by (repeat' (first | exact rfl | exact trivial | exact sim_refl _ | refine And.intro ?_ ?_))) (by (repeat' (first | exact rfl | exact trivial | exact sim_refl _ | refine And.intro ?_ ?_)))))
  · refine sx hXCt [] 400 rfl (by (simp [-List.getD_eq_getElem?_getD, -List.length_eq_zero_iff, conjP])) ?_
    refine sx hXCt [.F] 400 rfl (by (simp [-List.getD_eq_getElem?_getD, -List.length_eq_zero_iff, conjP, ul])) ?_
    (refine ss_end hXCt [] rfl rfl trivial rfl rfl rfl rfl ?hv (by (repeat' (first | exact rfl | exact trivial | exact sim_refl _ | refine And.intro ?_ ?_))) (by (repeat' (first | exact rfl | exact trivial | exact sim_refl _ | refine And.intro ?_ ?_))) (by (repeat' (first | exact rfl | exact trivial | exact sim_refl _ | refine And.intro ?_ ?_))); (case hv => show sim (.agg [.int .i64 (upF w 4), .int .i64 (upF w 1), .int .i64 (upF w 0), .bool (upF w 3 == 1), .bool (upF w 2 == 1)]) (ctV w); rw [f0, f1, f2, f3, f4]; exact sim_refl _))
def fitC (e g b : Int) : Prop := 0 ≤ e ∧ e < 32768 ∧ 0 ≤ g ∧ g < 2147483648 ∧ 0 ≤ b ∧ b < 65536
def pkV (e g b l y : Int) : Int := b + g * 65536 + y * 140737488355328 + l * 281474976710656 + e * 562949953421312
def pkW (e g b l y : Int) : Nat → Int
  | 0 => 0
  | 1 => setV 0 0 (IntKind.u64.wrap b)
  | 2 => setV (setV 0 0 (IntKind.u64.wrap b)) 16 (IntKind.u64.wrap g)
  | 3 => setV (setV (setV 0 0 (IntKind.u64.wrap b)) 16 (IntKind.u64.wrap g)) 47 (IntKind.u64.wrap y)
  | 4 => setV (setV (setV (setV 0 0 (IntKind.u64.wrap b)) 16 (IntKind.u64.wrap g)) 47 (IntKind.u64.wrap y)) 48 (IntKind.u64.wrap l)
  | _ => setV (setV (setV (setV (setV 0 0 (IntKind.u64.wrap b)) 16 (IntKind.u64.wrap g)) 47 (IntKind.u64.wrap y)) 48 (IntKind.u64.wrap l)) 49 (IntKind.u64.wrap e)
def pkT (i : Nat) : List (Nat × SV) := [(4, .ptr 0 0), (5, .ptr 1 0), (6, .ptr 2 0), (7, .ptr 3 0), (8, .ptr 4 0), (9, .func (Fn.func 210) [] [.ptr 2 0, .ptr 3 0, .ptr 4 0]), (17, .int .i64 (i : Int))]
def pkH (e g b l y : Int) (i : Nat) : List HE := [.obj (.ints .i64 [b, g, y, l, e] 235), .obj (.ints .i64 [16, 31, 1, 1, 15] 235), .obj (.cells [.int .u64 (pkW e g b l y i)] 52), .obj (.cells [.int .i64 (upP i)] 3), .obj (.cells [.tt] 4)]
set_option maxHeartbeats 4000000 in
theorem pack0_fn {e g b : Int} (hf : fitC e g b) : Gives Tryz.prog 209 [.agg [.int .i64 e, .int .i64 g, .int .i64 b, .ff, .ff]] [] (Is (.tup [.int .u64 (pkV e g b 0 0), .niliface]) []) := by
  obtain ⟨a1, a2, a3, a4, a5, a6⟩ := hf
  have w1 : IntKind.u64.wrap e = e := by rw [wrap_u64]; omega
  have w2 : IntKind.u64.wrap g = g := by rw [wrap_u64]; omega
  have w3 : IntKind.u64.wrap b = b := by rw [wrap_u64]; omega
  have z0 : IntKind.u64.wrap 0 = 0 := by decide
  have z1 : IntKind.u64.wrap 1 = 1 := by decide
  refine gives_x hXCt (fn := Tryz.f209) rfl rfl rfl rfl fun ρ w' => ?_
  refine sxb hXCt [.l] [.F, .F] 4000 rfl (by simp [conjP]) ?_
  refine ss_sub hXCt (T' := pkT 0) (H' := pkH e g b 0 0 0) [4, 5, 6, 7, 8] rfl rfl rfl rfl (by (repeat' (first | exact rfl | exact trivial | exact sim_refl _ | refine And.intro ?_ ?_))) (by (repeat' (first | exact rfl | exact trivial | exact sim_refl _ | refine And.intro ?_ ?_))) (by (repeat' (first | exact rfl | exact trivial | exact sim_refl _ | refine And.intro ?_ ?_))) (by (repeat' (first | exact rfl | exact trivial | exact sim_refl _ | refine And.intro ?_ ?_))) ?_
  refine ss_loop hXCt pkT (pkH e g b 0 0) (fun i => i ≤ 5) (fun i => 5 - i) 0 (by decide) ?_
  intro i hi I back
  have hi : i ≤ 5 := hi
  have hc : i = 0 ∨ i = 1 ∨ i = 2 ∨ i = 3 ∨ i = 4 ∨ i = 5 := by omega
  rcases hc with rfl | rfl | rfl | rfl | rfl | rfl
  · refine sx hXCt [] 400 rfl (by (simp [-List.getD_eq_getElem?_getD, -List.length_eq_zero_iff, conjP])) ?_
    refine sx hXCt [.T] 400 rfl (by (simp [-List.getD_eq_getElem?_getD, -List.length_eq_zero_iff, conjP, getH, HE.so, List.getD_cons_zero, upP, pkW, w3, a5, a6])) ?_
    (refine back 1 (by decide) (by decide) _ _ _ (sub_of [0, 1, 2, 3, 4] rfl rfl rfl rfl (by (repeat' (first | exact rfl | exact trivial | exact sim_refl _ | refine And.intro ?_ ?_))) (by (repeat' (first | exact rfl | exact trivial | exact sim_refl _ | refine And.intro ?_ ?_))) (by (repeat' (first | exact rfl | exact trivial | exact sim_refl _ | refine And.intro ?_ ?_))) (by (repeat' (first | exact rfl | exact trivial | exact sim_refl _ | refine And.intro ?_ ?_)))))
  · refine sx hXCt [] 400 rfl (by (simp [-List.getD_eq_getElem?_getD, -List.length_eq_zero_iff, conjP])) ?_
    refine sx hXCt [.T] 400 rfl (by (simp [-List.getD_eq_getElem?_getD, -List.length_eq_zero_iff, conjP, getH, HE.so, List.getD_cons_zero, List.getD_cons_succ, upP, pkW, setV, w2, w3, a3, a4, a5, a6])) ?_
    (refine back 2 (by decide) (by decide) _ _ _ (sub_of [0, 1, 2, 3, 4] rfl rfl rfl rfl (by (repeat' (first | exact rfl | exact trivial | exact sim_refl _ | refine And.intro ?_ ?_))) (by (repeat' (first | exact rfl | exact trivial | exact sim_refl _ | refine And.intro ?_ ?_))) (by (repeat' (first | exact rfl | exact trivial | exact sim_refl _ | refine And.intro ?_ ?_))) (by (repeat' (first | exact rfl | exact trivial | exact sim_refl _ | refine And.intro ?_ ?_)))))
  · refine sx hXCt [] 400 rfl (by (simp [-List.getD_eq_getElem?_getD, -List.length_eq_zero_iff, conjP])) ?_
    refine sx hXCt [.T] 400 rfl (by (simp [-List.getD_eq_getElem?_getD, -List.length_eq_zero_iff, conjP, getH, HE.so, List.getD_cons_zero, List.getD_cons_succ, upP, pkW, setV, z0, w2, w3] <;> (first | omega | ((repeat' (refine And.intro ?_ ?_)) <;> (first | omega | exact decide_eq_false (by omega) | exact decide_eq_true (by omega)))))) ?_
    (refine back 3 (by decide) (by decide) _ _ _ (sub_of [0, 1, 2, 3, 4] rfl rfl rfl rfl (by (repeat' (first | exact rfl | exact trivial | exact sim_refl _ | refine And.intro ?_ ?_))) (by (repeat' (first | exact rfl | exact trivial | exact sim_refl _ | refine And.intro ?_ ?_))) (by (repeat' (first | exact rfl | exact trivial | exact sim_refl _ | refine And.intro ?_ ?_))) (by (repeat' (first | exact rfl | exact trivial | exact sim_refl _ | refine And.intro ?_ ?_)))))
  · refine sx hXCt [] 400 rfl (by (simp [-List.getD_eq_getElem?_getD, -List.length_eq_zero_iff, conjP])) ?_
    refine sx hXCt [.T] 400 rfl (by (simp [-List.getD_eq_getElem?_getD, -List.length_eq_zero_iff, conjP, getH, HE.so, List.getD_cons_zero, List.getD_cons_succ, upP, pkW, setV, z0, w2, w3] <;> (first | omega | ((repeat' (refine And.intro ?_ ?_)) <;> (first | omega | exact decide_eq_false (by omega) | exact decide_eq_true (by omega)))))) ?_
    (refine back 4 (by decide) (by decide) _ _ _ (sub_of [0, 1, 2, 3, 4] rfl rfl rfl rfl (by (repeat' (first | exact rfl | exact trivial | exact sim_refl _ | refine And.intro ?_ ?_))) (by (repeat' (first | exact rfl | exact trivial | exact sim_refl _ | refine And.intro ?_ ?_))) (by (repeat' (first | exact rfl | exact trivial | exact sim_refl _ | refine And.intro ?_ ?_))) (by (repeat' (first | exact rfl | exact trivial | exact sim_refl _ | refine And.intro ?_ ?_)))))
  · refine sx hXCt [] 400 rfl (by (simp [-List.getD_eq_getElem?_getD, -List.length_eq_zero_iff, conjP])) ?_
    refine sx hXCt [.T] 400 rfl (by (simp [-List.getD_eq_getElem?_getD, -List.length_eq_zero_iff, conjP, getH, HE.so, List.getD_cons_zero, List.getD_cons_succ, upP, pkW, setV, z0, w1, w2, w3, a1, a2] <;> (first | omega | ((repeat' (refine And.intro ?_ ?_)) <;> (first | omega | exact decide_eq_false (by omega) | exact decide_eq_true (by omega)))))) ?_
    (refine back 5 (by decide) (by decide) _ _ _ (sub_of [0, 1, 2, 3, 4] rfl rfl rfl rfl (by (repeat' (first | exact rfl | exact trivial | exact sim_refl _ | refine And.intro ?_ ?_))) (by (repeat' (first | exact rfl | exact trivial | exact sim_refl _ | refine And.intro ?_ ?_))) (by (repeat' (first | exact rfl | exact trivial | exact sim_refl _ | refine And.intro ?_ ?_))) (by (repeat' (first | exact rfl | exact trivial | exact sim_refl _ | refine And.intro ?_ ?_)))))
  · refine sx hXCt [] 400 rfl (by (simp [-List.getD_eq_getElem?_getD, -List.length_eq_zero_iff, conjP])) ?_
    refine sx hXCt [.F] 400 rfl (by (simp [-List.getD_eq_getElem?_getD, -List.length_eq_zero_iff, conjP, addOP])) ?_
    (refine ss_end hXCt [] rfl rfl trivial rfl rfl rfl rfl ?hv (by (repeat' (first | exact rfl | exact trivial | exact sim_refl _ | refine And.intro ?_ ?_))) (by (repeat' (first | exact rfl | exact trivial | exact sim_refl _ | refine And.intro ?_ ?_))) (by (repeat' (first | exact rfl | exact trivial | exact sim_refl _ | refine And.intro ?_ ?_))); (case hv => exact ⟨⟨rfl, by simp [pkW, setV, z0, w1, w2, w3, pkV]; omega⟩, rfl, trivial⟩))
set_option maxHeartbeats 4000000 in
theorem pack1_fn {e g b : Int} (hf : fitC e g b) : Gives Tryz.prog 209 [.agg [.int .i64 e, .int .i64 g, .int .i64 b, .ff, .tt]] [] (Is (.tup [.int .u64 (pkV e g b 0 1), .niliface]) []) := by
  obtain ⟨a1, a2, a3, a4, a5, a6⟩ := hf
  have w1 : IntKind.u64.wrap e = e := by rw [wrap_u64]; omega
  have w2 : IntKind.u64.wrap g = g := by rw [wrap_u64]; omega
  have w3 : IntKind.u64.wrap b = b := by rw [wrap_u64]; omega
  have z0 : IntKind.u64.wrap 0 = 0 := by decide
  have z1 : IntKind.u64.wrap 1 = 1 := by decide
  refine gives_x hXCt (fn := Tryz.f209) rfl rfl rfl rfl fun ρ w' => ?_
  refine sxb hXCt [.l] [.T, .F] 4000 rfl (by simp [conjP]) ?_
  refine ss_sub hXCt (T' := pkT 0) (H' := pkH e g b 0 1 0) [4, 5, 6, 7, 8] rfl rfl rfl rfl (by (repeat' (first | exact rfl | exact trivial | exact sim_refl _ | refine And.intro ?_ ?_))) (by (repeat' (first | exact rfl | exact trivial | exact sim_refl _ | refine And.intro ?_ ?_))) (by (repeat' (first | exact rfl | exact trivial | exact sim_refl _ | refine And.intro ?_ ?_))) (by (repeat' (first | exact rfl | exact trivial | exact sim_refl _ | refine And.intro ?_ ?_))) ?_
  refine ss_loop hXCt pkT (pkH e g b 0 1) (fun i => i ≤ 5) (fun i => 5 - i) 0 (by decide) ?_
  intro i hi I back
  have hi : i ≤ 5 := hi
  have hc : i = 0 ∨ i = 1 ∨ i = 2 ∨ i = 3 ∨ i = 4 ∨ i = 5 := by omega
  rcases hc with rfl | rfl | rfl | rfl | rfl | rfl
  · refine sx hXCt [] 400 rfl (by (simp [-List.getD_eq_getElem?_getD, -List.length_eq_zero_iff, conjP])) ?_
    refine sx hXCt [.T] 400 rfl (by (simp [-List.getD_eq_getElem?_getD, -List.length_eq_zero_iff, conjP, getH, HE.so, List.getD_cons_zero, upP, pkW, w3, a5, a6])) ?_
    (refine back 1 (by decide) (by decide) _ _ _ (sub_of [0, 1, 2, 3, 4] rfl rfl rfl rfl (by (repeat' (first | exact rfl | exact trivial | exact sim_refl _ | refine And.intro ?_ ?_))) (by (repeat' (first | exact rfl | exact trivial | exact sim_refl _ | refine And.intro ?_ ?_))) (by (repeat' (first | exact rfl | exact trivial | exact sim_refl _ | refine And.intro ?_ ?_))) (by (repeat' (first | exact rfl | exact trivial | exact sim_refl _ | refine And.intro ?_ ?_)))))
  · refine sx hXCt [] 400 rfl (by (simp [-List.getD_eq_getElem?_getD, -List.length_eq_zero_iff, conjP])) ?_
    refine sx hXCt [.T] 400 rfl (by (simp [-List.getD_eq_getElem?_getD, -List.length_eq_zero_iff, conjP, getH, HE.so, List.getD_cons_zero, List.getD_cons_succ, upP, pkW, setV, w2, w3, a3, a4, a5, a6])) ?_
    (refine back 2 (by decide) (by decide) _ _ _ (sub_of [0, 1, 2, 3, 4] rfl rfl rfl rfl (by (repeat' (first | exact rfl | exact trivial | exact sim_refl _ | refine And.intro ?_ ?_))) (by (repeat' (first | exact rfl | exact trivial | exact sim_refl _ | refine And.intro ?_ ?_))) (by (repeat' (first | exact rfl | exact trivial | exact sim_refl _ | refine And.intro ?_ ?_))) (by (repeat' (first | exact rfl | exact trivial | exact sim_refl _ | refine And.intro ?_ ?_)))))
  · refine sx hXCt [] 400 rfl (by (simp [-List.getD_eq_getElem?_getD, -List.length_eq_zero_iff, conjP])) ?_
    refine sx hXCt [.T] 400 rfl (by (simp [-List.getD_eq_getElem?_getD, -List.length_eq_zero_iff, conjP, getH, HE.so, List.getD_cons_zero, List.getD_cons_succ, upP, pkW, setV, z1, w2, w3] <;> (first | omega | ((repeat' (refine And.intro ?_ ?_)) <;> (first | omega | exact decide_eq_false (by omega) | exact decide_eq_true (by omega)))))) ?_
    (refine back 3 (by decide) (by decide) _ _ _ (sub_of [0, 1, 2, 3, 4] rfl rfl rfl rfl (by (repeat' (first | exact rfl | exact trivial | exact sim_refl _ | refine And.intro ?_ ?_))) (by (repeat' (first | exact rfl | exact trivial | exact sim_refl _ | refine And.intro ?_ ?_))) (by (repeat' (first | exact rfl | exact trivial | exact sim_refl _ | refine And.intro ?_ ?_))) (by (repeat' (first | exact rfl | exact trivial | exact sim_refl _ | refine And.intro ?_ ?_)))))
  · refine sx hXCt [] 400 rfl (by (simp [-List.getD_eq_getElem?_getD, -List.length_eq_zero_iff, conjP])) ?_
    refine sx hXCt [.T] 400 rfl (by (simp [-List.getD_eq_getElem?_getD, -List.length_eq_zero_iff, conjP, getH, HE.so, List.getD_cons_zero, List.getD_cons_succ, upP, pkW, setV, z0, z1, w2, w3] <;> (first | omega | ((repeat' (refine And.intro ?_ ?_)) <;> (first | omega | exact decide_eq_false (by omega) | exact decide_eq_true (by omega)))))) ?_
    (refine back 4 (by decide) (by decide) _ _ _ (sub_of [0, 1, 2, 3, 4] rfl rfl rfl rfl (by (repeat' (first | exact rfl | exact trivial | exact sim_refl _ | refine And.intro ?_ ?_))) (by (repeat' (first | exact rfl | exact trivial | exact sim_refl _ | refine And.intro ?_ ?_))) (by (repeat' (first | exact rfl | exact trivial | exact sim_refl _ | refine And.intro ?_ ?_))) (by (repeat' (first | exact rfl | exact trivial | exact sim_refl _ | refine And.intro ?_ ?_)))))
  · refine sx hXCt [] 400 rfl (by (simp [-List.getD_eq_getElem?_getD, -List.length_eq_zero_iff, conjP])) ?_
    refine sx hXCt [.T] 400 rfl (by (simp [-List.getD_eq_getElem?_getD, -List.length_eq_zero_iff, conjP, getH, HE.so, List.getD_cons_zero, List.getD_cons_succ, upP, pkW, setV, z0, z1, w1, w2, w3, a1, a2] <;> (first | omega | ((repeat' (refine And.intro ?_ ?_)) <;> (first | omega | exact decide_eq_false (by omega) | exact decide_eq_true (by omega)))))) ?_
    (refine back 5 (by decide) (by decide) _ _ _ (sub_of [0, 1, 2, 3, 4] rfl rfl rfl rfl (by (repeat' (first | exact rfl | exact trivial | exact sim_refl _ | refine And.intro ?_ ?_))) (by (repeat' (first | exact rfl | exact trivial | exact sim_refl _ | refine And.intro ?_ ?_))) (by (repeat' (first | exact rfl | exact trivial | exact sim_refl _ | refine And.intro ?_ ?_))) (by (repeat' (first | exact rfl | exact trivial | exact sim_refl _ | refine And.intro ?_ ?_)))))
  · refine sx hXCt [] 400 rfl (by (simp [-List.getD_eq_getElem?_getD, -List.length_eq_zero_iff, conjP])) ?_
    refine sx hXCt [.F] 400 rfl (by (simp [-List.getD_eq_getElem?_getD, -List.length_eq_zero_iff, conjP, addOP])) ?_
    (refine ss_end hXCt [] rfl rfl trivial rfl rfl rfl rfl ?hv (by (repeat' (first | exact rfl | exact trivial | exact sim_refl _ | refine And.intro ?_ ?_))) (by (repeat' (first | exact rfl | exact trivial | exact sim_refl _ | refine And.intro ?_ ?_))) (by (repeat' (first | exact rfl | exact trivial | exact sim_refl _ | refine And.intro ?_ ?_))); (case hv => exact ⟨⟨rfl, by simp [pkW, setV, z0, z1, w1, w2, w3, pkV]; omega⟩, rfl, trivial⟩))
set_option maxHeartbeats 4000000 in
theorem pack2_fn {e g b : Int} (hf : fitC e g b) : Gives Tryz.prog 209 [.agg [.int .i64 e, .int .i64 g, .int .i64 b, .tt, .ff]] [] (Is (.tup [.int .u64 (pkV e g b 1 0), .niliface]) []) := by
  obtain ⟨a1, a2, a3, a4, a5, a6⟩ := hf
  have w1 : IntKind.u64.wrap e = e := by rw [wrap_u64]; omega
  have w2 : IntKind.u64.wrap g = g := by rw [wrap_u64]; omega
  have w3 : IntKind.u64.wrap b = b := by rw [wrap_u64]; omega
  have z0 : IntKind.u64.wrap 0 = 0 := by decide
  have z1 : IntKind.u64.wrap 1 = 1 := by decide
  refine gives_x hXCt (fn := Tryz.f209) rfl rfl rfl rfl fun ρ w' => ?_
  refine sxb hXCt [.l] [.F, .T] 4000 rfl (by simp [conjP]) ?_
  refine ss_sub hXCt (T' := pkT 0) (H' := pkH e g b 1 0 0) [4, 5, 6, 7, 8] rfl rfl rfl rfl (by (repeat' (first | exact rfl | exact trivial | exact sim_refl _ | refine And.intro ?_ ?_))) (by (repeat' (first | exact rfl | exact trivial | exact sim_refl _ | refine And.intro ?_ ?_))) (by (repeat' (first | exact rfl | exact trivial | exact sim_refl _ | refine And.intro ?_ ?_))) (by (repeat' (first | exact rfl | exact trivial | exact sim_refl _ | refine And.intro ?_ ?_))) ?_
  refine ss_loop hXCt pkT (pkH e g b 1 0) (fun i => i ≤ 5) (fun i => 5 - i) 0 (by decide) ?_
  intro i hi I back
  have hi : i ≤ 5 := hi
  have hc : i = 0 ∨ i = 1 ∨ i = 2 ∨ i = 3 ∨ i = 4 ∨ i = 5 := by omega
  rcases hc with rfl | rfl | rfl | rfl | rfl | rfl
  · refine sx hXCt [] 400 rfl (by (simp [-List.getD_eq_getElem?_getD, -List.length_eq_zero_iff, conjP])) ?_
    refine sx hXCt [.T] 400 rfl (by (simp [-List.getD_eq_getElem?_getD, -List.length_eq_zero_iff, conjP, getH, HE.so, List.getD_cons_zero, upP, pkW, w3, a5, a6])) ?_
    (refine back 1 (by decide) (by decide) _ _ _ (sub_of [0, 1, 2, 3, 4] rfl rfl rfl rfl (by (repeat' (first | exact rfl | exact trivial | exact sim_refl _ | refine And.intro ?_ ?_))) (by (repeat' (first | exact rfl | exact trivial | exact sim_refl _ | refine And.intro ?_ ?_))) (by (repeat' (first | exact rfl | exact trivial | exact sim_refl _ | refine And.intro ?_ ?_))) (by (repeat' (first | exact rfl | exact trivial | exact sim_refl _ | refine And.intro ?_ ?_)))))
  · refine sx hXCt [] 400 rfl (by (simp [-List.getD_eq_getElem?_getD, -List.length_eq_zero_iff, conjP])) ?_
    refine sx hXCt [.T] 400 rfl (by (simp [-List.getD_eq_getElem?_getD, -List.length_eq_zero_iff, conjP, getH, HE.so, List.getD_cons_zero, List.getD_cons_succ, upP, pkW, setV, w2, w3, a3, a4, a5, a6])) ?_
    (refine back 2 (by decide) (by decide) _ _ _ (sub_of [0, 1, 2, 3, 4] rfl rfl rfl rfl (by (repeat' (first | exact rfl | exact trivial | exact sim_refl _ | refine And.intro ?_ ?_))) (by (repeat' (first | exact rfl | exact trivial | exact sim_refl _ | refine And.intro ?_ ?_))) (by (repeat' (first | exact rfl | exact trivial | exact sim_refl _ | refine And.intro ?_ ?_))) (by (repeat' (first | exact rfl | exact trivial | exact sim_refl _ | refine And.intro ?_ ?_)))))
  · refine sx hXCt [] 400 rfl (by (simp [-List.getD_eq_getElem?_getD, -List.length_eq_zero_iff, conjP])) ?_
    refine sx hXCt [.T] 400 rfl (by (simp [-List.getD_eq_getElem?_getD, -List.length_eq_zero_iff, conjP, getH, HE.so, List.getD_cons_zero, List.getD_cons_succ, upP, pkW, setV, z0, w2, w3] <;> (first | omega | ((repeat' (refine And.intro ?_ ?_)) <;> (first | omega | exact decide_eq_false (by omega) | exact decide_eq_true (by omega)))))) ?_
    (refine back 3 (by decide) (by decide) _ _ _ (sub_of [0, 1, 2, 3, 4] rfl rfl rfl rfl (by (repeat' (first | exact rfl | exact trivial | exact sim_refl _ | refine And.intro ?_ ?_))) (by (repeat' (first | exact rfl | exact trivial | exact sim_refl _ | refine And.intro ?_ ?_))) (by (repeat' (first | exact rfl | exact trivial | exact sim_refl _ | refine And.intro ?_ ?_))) (by (repeat' (first | exact rfl | exact trivial | exact sim_refl _ | refine And.intro ?_ ?_)))))
  · refine sx hXCt [] 400 rfl (by (simp [-List.getD_eq_getElem?_getD, -List.length_eq_zero_iff, conjP])) ?_
    refine sx hXCt [.T] 400 rfl (by (simp [-List.getD_eq_getElem?_getD, -List.length_eq_zero_iff, conjP, getH, HE.so, List.getD_cons_zero, List.getD_cons_succ, upP, pkW, setV, z0, z1, w2, w3] <;> (first | omega | ((repeat' (refine And.intro ?_ ?_)) <;> (first | omega | exact decide_eq_false (by omega) | exact decide_eq_true (by omega)))))) ?_
    (refine back 4 (by decide) (by decide) _ _ _ (sub_of [0, 1, 2, 3, 4] rfl rfl rfl rfl (by (repeat' (first | exact rfl | exact trivial | exact sim_refl _ | refine And.intro ?_ ?_))) (by (repeat' (first | exact rfl | exact trivial | exact sim_refl _ | refine And.intro ?_ ?_))) (by (repeat' (first | exact rfl | exact trivial | exact sim_refl _ | refine And.intro ?_ ?_))) (by (repeat' (first | exact rfl | exact trivial | exact sim_refl _ | refine And.intro ?_ ?_)))))
  · refine sx hXCt [] 400 rfl (by (simp [-List.getD_eq_getElem?_getD, -List.length_eq_zero_iff, conjP])) ?_
    refine sx hXCt [.T] 400 rfl (by (simp [-List.getD_eq_getElem?_getD, -List.length_eq_zero_iff, conjP, getH, HE.so, List.getD_cons_zero, List.getD_cons_succ, upP, pkW, setV, z0, z1, w1, w2, w3, a1, a2] <;> (first | omega | ((repeat' (refine And.intro ?_ ?_)) <;> (first | omega | exact decide_eq_false (by omega) | exact decide_eq_true (by omega)))))) ?_
    (refine back 5 (by decide) (by decide) _ _ _ (sub_of [0, 1, 2, 3, 4] rfl rfl rfl rfl (by (repeat' (first | exact rfl | exact trivial | exact sim_refl _ | refine And.intro ?_ ?_))) (by (repeat' (first | exact rfl | exact trivial | exact sim_refl _ | refine And.intro ?_ ?_))) (by (repeat' (first | exact rfl | exact trivial | exact sim_refl _ | refine And.intro ?_ ?_))) (by (repeat' (first | exact rfl | exact trivial | exact sim_refl _ | refine And.intro ?_ ?_)))))
  · refine sx hXCt [] 400 rfl (by (simp [-List.getD_eq_getElem?_getD, -List.length_eq_zero_iff, conjP])) ?_
    refine sx hXCt [.F] 400 rfl (by (simp [-List.getD_eq_getElem?_getD, -List.length_eq_zero_iff, conjP, addOP])) ?_
    (refine ss_end hXCt [] rfl rfl trivial rfl rfl rfl rfl ?hv (by (repeat' (first | exact rfl | exact trivial | exact sim_refl _ | refine And.intro ?_ ?_))) (by (repeat' (first | exact rfl | exact trivial | exact sim_refl _ | refine And.intro ?_ ?_))) (by (repeat' (first | exact rfl | exact trivial | exact sim_refl _ | refine And.intro ?_ ?_))); (case hv => exact ⟨⟨rfl, by simp [pkW, setV, z0, z1, w1, w2, w3, pkV]; omega⟩, rfl, trivial⟩))
set_option maxHeartbeats 4000000 in
theorem pack3_fn {e g b : Int} (hf : fitC e g b) : Gives Tryz.prog 209 [.agg [.int .i64 e, .int .i64 g, .int .i64 b, .tt, .tt]] [] (Is (.tup [.int .u64 (pkV e g b 1 1), .niliface]) []) := by
  obtain ⟨a1, a2, a3, a4, a5, a6⟩ := hf
  have w1 : IntKind.u64.wrap e = e := by rw [wrap_u64]; omega
  have w2 : IntKind.u64.wrap g = g := by rw [wrap_u64]; omega
  have w3 : IntKind.u64.wrap b = b := by rw [wrap_u64]; omega
  have z0 : IntKind.u64.wrap 0 = 0 := by decide
  have z1 : IntKind.u64.wrap 1 = 1 := by decide
  refine gives_x hXCt (fn := Tryz.f209) rfl rfl rfl rfl fun ρ w' => ?_
  refine sxb hXCt [.l] [.T, .T] 4000 rfl (by simp [conjP]) ?_
  refine ss_sub hXCt (T' := pkT 0) (H' := pkH e g b 1 1 0) [4, 5, 6, 7, 8] rfl rfl rfl rfl (by (repeat' (first | exact rfl | exact trivial | exact sim_refl _ | refine And.intro ?_ ?_))) (by (repeat' (first | exact rfl | exact trivial | exact sim_refl _ | refine And.intro ?_ ?_))) (by (repeat' (first | exact rfl | exact trivial | exact sim_refl _ | refine And.intro ?_ ?_))) (by (repeat' (first | exact rfl | exact trivial | exact sim_refl _ | refine And.intro ?_ ?_))) ?_
  refine ss_loop hXCt pkT (pkH e g b 1 1) (fun i => i ≤ 5) (fun i => 5 - i) 0 (by decide) ?_
  intro i hi I back
  have hi : i ≤ 5 := hi
  have hc : i = 0 ∨ i = 1 ∨ i = 2 ∨ i = 3 ∨ i = 4 ∨ i = 5 := by omega
  rcases hc with rfl | rfl | rfl | rfl | rfl | rfl
  · refine sx hXCt [] 400 rfl (by (simp [-List.getD_eq_getElem?_getD, -List.length_eq_zero_iff, conjP])) ?_
    refine sx hXCt [.T] 400 rfl (by (simp [-List.getD_eq_getElem?_getD, -List.length_eq_zero_iff, conjP, getH, HE.so, List.getD_cons_zero, upP, pkW, w3, a5, a6])) ?_
    (refine back 1 (by decide) (by decide) _ _ _ (sub_of [0, 1, 2, 3, 4] rfl rfl rfl rfl (by (repeat' (first | exact rfl | exact trivial | exact sim_refl _ | refine And.intro ?_ ?_))) (by (repeat' (first | exact rfl | exact trivial | exact sim_refl _ | refine And.intro ?_ ?_))) (by (repeat' (first | exact rfl | exact trivial | exact sim_refl _ | refine And.intro ?_ ?_))) (by (repeat' (first | exact rfl | exact trivial | exact sim_refl _ | refine And.intro ?_ ?_)))))
  · refine sx hXCt [] 400 rfl (by (simp [-List.getD_eq_getElem?_getD, -List.length_eq_zero_iff, conjP])) ?_
    refine sx hXCt [.T] 400 rfl (by (simp [-List.getD_eq_getElem?_getD, -List.length_eq_zero_iff, conjP, getH, HE.so, List.getD_cons_zero, List.getD_cons_succ, upP, pkW, setV, w2, w3, a3, a4, a5, a6])) ?_
    (refine back 2 (by decide) (by decide) _ _ _ (sub_of [0, 1, 2, 3, 4] rfl rfl rfl rfl (by (repeat' (first | exact rfl | exact trivial | exact sim_refl _ | refine And.intro ?_ ?_))) (by (repeat' (first | exact rfl | exact trivial | exact sim_refl _ | refine And.intro ?_ ?_))) (by (repeat' (first | exact rfl | exact trivial | exact sim_refl _ | refine And.intro ?_ ?_))) (by (repeat' (first | exact rfl | exact trivial | exact sim_refl _ | refine And.intro ?_ ?_)))))
  · refine sx hXCt [] 400 rfl (by (simp [-List.getD_eq_getElem?_getD, -List.length_eq_zero_iff, conjP])) ?_
    refine sx hXCt [.T] 400 rfl (by (simp [-List.getD_eq_getElem?_getD, -List.length_eq_zero_iff, conjP, getH, HE.so, List.getD_cons_zero, List.getD_cons_succ, upP, pkW, setV, z1, w2, w3] <;> (first | omega | ((repeat' (refine And.intro ?_ ?_)) <;> (first | omega | exact decide_eq_false (by omega) | exact decide_eq_true (by omega)))))) ?_
    (refine back 3 (by decide) (by decide) _ _ _ (sub_of [0, 1, 2, 3, 4] rfl rfl rfl rfl (by (repeat' (first | exact rfl | exact trivial | exact sim_refl _ | refine And.intro ?_ ?_))) (by (repeat' (first | exact rfl | exact trivial | exact sim_refl _ | refine And.intro ?_ ?_))) (by (repeat' (first | exact rfl | exact trivial | exact sim_refl _ | refine And.intro ?_ ?_))) (by (repeat' (first | exact rfl | exact trivial | exact sim_refl _ | refine And.intro ?_ ?_)))))
  · refine sx hXCt [] 400 rfl (by (simp [-List.getD_eq_getElem?_getD, -List.length_eq_zero_iff, conjP])) ?_
    refine sx hXCt [.T] 400 rfl (by (simp [-List.getD_eq_getElem?_getD, -List.length_eq_zero_iff, conjP, getH, HE.so, List.getD_cons_zero, List.getD_cons_succ, upP, pkW, setV, z1, w2, w3] <;> (first | omega | ((repeat' (refine And.intro ?_ ?_)) <;> (first | omega | exact decide_eq_false (by omega) | exact decide_eq_true (by omega)))))) ?_
    (refine back 4 (by decide) (by decide) _ _ _ (sub_of [0, 1, 2, 3, 4] rfl rfl rfl rfl (by (repeat' (first | exact rfl | exact trivial | exact sim_refl _ | refine And.intro ?_ ?_))) (by (repeat' (first | exact rfl | exact trivial | exact sim_refl _ | refine And.intro ?_ ?_))) (by (repeat' (first | exact rfl | exact trivial | exact sim_refl _ | refine And.intro ?_ ?_))) (by (repeat' (first | exact rfl | exact trivial | exact sim_refl _ | refine And.intro ?_ ?_)))))
  · refine sx hXCt [] 400 rfl (by (simp [-List.getD_eq_getElem?_getD, -List.length_eq_zero_iff, conjP])) ?_
    refine sx hXCt [.T] 400 rfl (by (simp [-List.getD_eq_getElem?_getD, -List.length_eq_zero_iff, conjP, getH, HE.so, List.getD_cons_zero, List.getD_cons_succ, upP, pkW, setV, z1, w1, w2, w3, a1, a2] <;> (first | omega | ((repeat' (refine And.intro ?_ ?_)) <;> (first | omega | exact decide_eq_false (by omega) | exact decide_eq_true (by omega)))))) ?_
    (refine back 5 (by decide) (by decide) _ _ _ (sub_of [0, 1, 2, 3, 4] rfl rfl rfl rfl (by (repeat' (first | exact rfl | exact trivial | exact sim_refl _ | refine And.intro ?_ ?_))) (by (repeat' (first | exact rfl | exact trivial | exact sim_refl _ | refine And.intro ?_ ?_))) (by (repeat' (first | exact rfl | exact trivial | exact sim_refl _ | refine And.intro ?_ ?_))) (by (repeat' (first | exact rfl | exact trivial | exact sim_refl _ | refine And.intro ?_ ?_)))))
  · refine sx hXCt [] 400 rfl (by (simp [-List.getD_eq_getElem?_getD, -List.length_eq_zero_iff, conjP])) ?_
    refine sx hXCt [.F] 400 rfl (by (simp [-List.getD_eq_getElem?_getD, -List.length_eq_zero_iff, conjP, addOP])) ?_
    (refine ss_end hXCt [] rfl rfl trivial rfl rfl rfl rfl ?hv (by (repeat' (first | exact rfl | exact trivial | exact sim_refl _ | refine And.intro ?_ ?_))) (by (repeat' (first | exact rfl | exact trivial | exact sim_refl _ | refine And.intro ?_ ?_))) (by (repeat' (first | exact rfl | exact trivial | exact sim_refl _ | refine And.intro ?_ ?_))); (case hv => exact ⟨⟨rfl, by simp [pkW, setV, z1, w1, w2, w3, pkV]; omega⟩, rfl, trivial⟩))
end Go.Proofs.YtkkddjchkkaagaaGreatDoor
