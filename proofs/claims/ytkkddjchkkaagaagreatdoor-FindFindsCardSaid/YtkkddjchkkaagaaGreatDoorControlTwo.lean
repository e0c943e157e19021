/- Control words: the program's functions of them, and the document's own, for any word. -/
import Derived.Test.YtkkddjchkkaagaaGreatDoorControl
import Derived.Test.YtkkddjchkkaagaaGreatDoorPlanA
namespace Go.Proofs.YtkkddjchkkaagaaGreatDoor
open Go Go.Hx
set_option maxRecDepth 8000
def b2 (b : Bool) : Int := if b then 1 else 0
def bV : SV → Option Bool
  | .tt => some true
  | .ff => some false
  | .bool b => some b
  | _ => none
theorem bV_tr {x : SV} {b : Bool} (h : bV x = some b) : (∀ ρ, x.tr ρ = (if b then SV.tt else SV.ff).tr ρ) ∧ ∀ A, x.okh A = true := by
  unfold bV at h
  split at h
  · simp at h; subst h; exact ⟨fun _ => rfl, fun _ => rfl⟩
  · simp at h; subst h; exact ⟨fun _ => rfl, fun _ => rfl⟩
  · rename_i b'; simp at h; subst h; exact ⟨fun _ => by cases b' <;> rfl, fun _ => rfl⟩
  · simp at h
/-! The words that others become. -/
theorem cpk_fn {e g b : Int} {x y : SV} {l z : Bool} (hf : fitC e g b) (hx : bV x = some l) (hy : bV y = some z) : Gives Tryz.prog 209 [.agg [.int .i64 e, .int .i64 g, .int .i64 b, x, y]] [] (Is (.tup [.int .u64 (pkV e g b (b2 l) (b2 z)), .niliface]) []) := by
  obtain ⟨x1, x2⟩ := bV_tr hx
  obtain ⟨y1, y2⟩ := bV_tr hy
  intro ρ w hS ho
  have e1 : SV.trs ρ [.agg [.int .i64 e, .int .i64 g, .int .i64 b, x, y]] = SV.trs ρ [.agg [.int .i64 e, .int .i64 g, .int .i64 b, if l then SV.tt else SV.ff, if z then SV.tt else SV.ff]] := by
    simp only [SV.trs, SV.tr, x1, y1]
  rw [e1]
  cases l <;> cases z
  · exact pack0_fn hf ρ w hS rfl
  · exact pack1_fn hf ρ w hS rfl
  · exact pack2_fn hf ρ w hS rfl
  · exact pack3_fn hf ρ w hS rfl
def cpkS : List SV → Option (List Prop × SV)
  | [.agg [.int .i64 e, .int .i64 g, .int .i64 b, x, y]] => match bV x, bV y with
    | some l, some z => some ([0 ≤ e, e < 32768, 0 ≤ g, g < 2147483648, 0 ≤ b, b < 65536], .tup [.int .u64 (pkV e g b (b2 l) (b2 z)), .niliface])
    | _, _ => none
  | _ => none
theorem cpkS_ok : PureOk 209 cpkS := by
  intro args ob V hs ho
  unfold cpkS at hs
  split at hs
  · split at hs
    · rename_i hx hy
      simp only [Option.some.injEq, Prod.mk.injEq] at hs
      obtain ⟨rfl, rfl⟩ := hs
      have o1 := ho _ (List.mem_cons_self ..)
      have o2 := ho _ (List.mem_cons_of_mem _ (List.mem_cons_self ..))
      have o3 := ho _ (List.mem_cons_of_mem _ (List.mem_cons_of_mem _ (List.mem_cons_self ..)))
      have o4 := ho _ (List.mem_cons_of_mem _ (List.mem_cons_of_mem _ (List.mem_cons_of_mem _ (List.mem_cons_self ..))))
      have o5 := ho _ (List.mem_cons_of_mem _ (List.mem_cons_of_mem _ (List.mem_cons_of_mem _ (List.mem_cons_of_mem _ (List.mem_cons_self ..)))))
      have o6 := ho _ (List.mem_cons_of_mem _ (List.mem_cons_of_mem _ (List.mem_cons_of_mem _ (List.mem_cons_of_mem _ (List.mem_cons_of_mem _ (List.mem_cons_self ..))))))
      exact ⟨by simp [SV.okhs, SV.okh, (bV_tr hx).2, (bV_tr hy).2], rfl, cpk_fn ⟨o1, o2, o3, o4, o5, o6⟩ hx hy⟩
    · simp at hs
  · simp at hs
def unpkS : List SV → Option (List Prop × SV)
  | [.int .u64 w] => some ([0 ≤ w, w < 18446744073709551616], ctV w)
  | _ => none
theorem unpkS_ok : PureOk 174 unpkS := by
  intro args ob V hs ho
  unfold unpkS at hs
  split at hs
  · simp only [Option.some.injEq, Prod.mk.injEq] at hs
    obtain ⟨rfl, rfl⟩ := hs
    have o1 := ho _ (List.mem_cons_self ..)
    have o2 := ho _ (List.mem_cons_of_mem _ (List.mem_cons_self ..))
    exact ⟨rfl, rfl, unpk_fn o1 o2⟩
  · simp at hs
def ctCw : Nat → Option Hx.Spec
  | 174 => some (pureS unpkS)
  | 209 => some (pureS cpkS)
  | _ => none
theorem ctCw_ok : ∀ f s args H ob V L, ctCw f = some s → s args H = some (ob, V, L) → AllP ob → Gives Tryz.prog f args H (Is V L) := by
  intro f s args H ob V L h hs ho
  unfold ctCw at h
  split at h
  · simp at h; subst h; exact pureS_ok ⟨_, hTE⟩ (unpkS_ok) hs ho
  · simp at h; subst h; exact pureS_ok ⟨_, hTE⟩ (cpkS_ok) hs ho
  · simp at h
noncomputable def XCw : Tabs := tabs tr ft xt (fun _ => none) ctCw 20
theorem hXCw : TOk Tryz.prog (XCw) := ⟨hTE, hFT, ctCw_ok, hXT, fun t ks h => by simp [XCw, tabs] at h, mixed⟩
/-! The document's. -/
theorem and_m {x : Int} (n : Nat) (M : Int) (hM : M = 2 ^ n - 1) (hn : n ≤ 48) (h0 : 0 ≤ x) (h1 : x < 18446744073709551616) : ibits .and .u64 x M = x % 2 ^ n := by
  obtain ⟨k, rfl⟩ := Int.eq_ofNat_of_zero_le h0
  have := and_mask (x := k) (n := n) (by omega) (by omega)
  have h2 : ((2 ^ n - 1 : Nat) : Int) = M := by
    rw [hM, Int.ofNat_sub Nat.one_le_two_pow]; simp
  rw [h2] at this
  rw [this]; simp
theorem runpk_fn {w : Int} (h0 : 0 ≤ w) (h1 : w < 18446744073709551616) : Gives Tryz.prog 60 [.int .u64 w] [] (Is (ctV w) []) := by
  have s1 : w.fdiv 65536 = w / 65536 := Int.fdiv_eq_ediv_of_nonneg _ (by decide)
  have s2 : w.fdiv 140737488355328 = w / 140737488355328 := Int.fdiv_eq_ediv_of_nonneg _ (by decide)
  have s3 : w.fdiv 281474976710656 = w / 281474976710656 := Int.fdiv_eq_ediv_of_nonneg _ (by decide)
  have s4 : w.fdiv 562949953421312 = w / 562949953421312 := Int.fdiv_eq_ediv_of_nonneg _ (by decide)
  have g0 : IntKind.i64.wrap (ibits .and .u64 w 65535) = blW w := by rw [and_m 16 65535 (by decide) (by decide) h0 h1]; show IntKind.i64.wrap (w % 65536) = _; rw [wi64 (by omega) (by omega)]; rfl
  have g1 : IntKind.i64.wrap (ibits .and .u64 (w.fdiv 65536) 2147483647) = geW w := by rw [s1, and_m 31 2147483647 (by decide) (by decide) (by omega) (by omega)]; show IntKind.i64.wrap (w / 65536 % 2147483648) = _; rw [wi64 (by omega) (by omega)]; rfl
  have g2 : ibits .and .u64 (w.fdiv 140737488355328) 1 = w / 140737488355328 % 2 := by rw [s2, and_m 1 1 (by decide) (by decide) (by omega) (by omega)]; rfl
  have g3 : ibits .and .u64 (w.fdiv 281474976710656) 1 = w / 281474976710656 % 2 := by rw [s3, and_m 1 1 (by decide) (by decide) (by omega) (by omega)]; rfl
  have g4 : IntKind.i64.wrap (w.fdiv 562949953421312) = epW w := by rw [s4]; rw [wi64 (by omega) (by omega)]; unfold epW; omega
  refine gives_x hXCw (fn := Tryz.f60) rfl rfl rfl rfl fun ρ w' => ?_
  refine sx hXCw [] 400 rfl (by (simp [-List.getD_eq_getElem?_getD, -List.length_eq_zero_iff, conjP])) ?_
  (refine ss_end hXCw [] rfl rfl trivial rfl rfl rfl rfl ?hv (by (repeat' (first | exact rfl | exact trivial | exact sim_refl _ | refine And.intro ?_ ?_))) (by (repeat' (first | exact rfl | exact trivial | exact sim_refl _ | refine And.intro ?_ ?_))) (by (repeat' (first | exact rfl | exact trivial | exact sim_refl _ | refine And.intro ?_ ?_))); (case hv => show sim (.agg [.int .i64 (IntKind.i64.wrap (w.fdiv 562949953421312)), .int .i64 (IntKind.i64.wrap (ibits .and .u64 (w.fdiv 65536) 2147483647)), .int .i64 (IntKind.i64.wrap (ibits .and .u64 w 65535)), .bool (decide (ibits .and .u64 (w.fdiv 281474976710656) 1 = 1)), .bool (decide (ibits .and .u64 (w.fdiv 140737488355328) 1 = 1))]) (ctV w); rw [g0, g1, g2, g3, g4]; exact sim_refl _))
def runpkS : List SV → Option (List Prop × SV)
  | [.int .u64 w] => some ([0 ≤ w, w < 18446744073709551616], ctV w)
  | _ => none
theorem runpkS_ok : PureOk 60 runpkS := by
  intro args ob V hs ho
  unfold runpkS at hs
  split at hs
  · simp only [Option.some.injEq, Prod.mk.injEq] at hs
    obtain ⟨rfl, rfl⟩ := hs
    have o1 := ho _ (List.mem_cons_self ..)
    have o2 := ho _ (List.mem_cons_of_mem _ (List.mem_cons_self ..))
    exact ⟨rfl, rfl, runpk_fn o1 o2⟩
  · simp at hs
theorem rflag_fn {x : SV} {l : Bool} (hx : bV x = some l) : Gives Tryz.prog 114 [x] [] (Is (.int .u64 (b2 l)) []) := by
  obtain ⟨x1, x2⟩ := bV_tr hx
  have ht : Gives Tryz.prog 114 [.tt] [] (Is (.int .u64 1) []) := by
    refine gives_x hXCw (fn := Tryz.f114) rfl rfl rfl rfl fun ρ w' => ?_
    refine sx hXCw [] 400 rfl (by (simp [-List.getD_eq_getElem?_getD, -List.length_eq_zero_iff, conjP])) ?_
    (refine ss_end hXCw [] rfl rfl trivial rfl rfl rfl rfl (by (repeat' (first | exact rfl | exact trivial | exact sim_refl _ | refine And.intro ?_ ?_))) (by (repeat' (first | exact rfl | exact trivial | exact sim_refl _ | refine And.intro ?_ ?_))) (by (repeat' (first | exact rfl | exact trivial | exact sim_refl _ | refine And.intro ?_ ?_))) (by (repeat' (first | exact rfl | exact trivial | exact sim_refl _ | refine And.intro ?_ ?_))))
  have hf : Gives Tryz.prog 114 [.ff] [] (Is (.int .u64 0) []) := by
    refine gives_x hXCw (fn := Tryz.f114) rfl rfl rfl rfl fun ρ w' => ?_
    refine sx hXCw [] 400 rfl (by (simp [-List.getD_eq_getElem?_getD, -List.length_eq_zero_iff, conjP])) ?_
    (refine ss_end hXCw [] rfl rfl trivial rfl rfl rfl rfl (by (repeat' (first | exact rfl | exact trivial | exact sim_refl _ | refine And.intro ?_ ?_))) (by (repeat' (first | exact rfl | exact trivial | exact sim_refl _ | refine And.intro ?_ ?_))) (by (repeat' (first | exact rfl | exact trivial | exact sim_refl _ | refine And.intro ?_ ?_))) (by (repeat' (first | exact rfl | exact trivial | exact sim_refl _ | refine And.intro ?_ ?_))))
  intro ρ w hS ho
  have e1 : SV.trs ρ [x] = SV.trs ρ [if l then SV.tt else SV.ff] := by simp only [SV.trs, x1]
  rw [e1]
  cases l
  · exact hf ρ w hS rfl
  · exact ht ρ w hS rfl
def rflagS : List SV → Option (List Prop × SV)
  | [x] => match bV x with
    | some l => some ([], .int .u64 (b2 l))
    | _ => none
  | _ => none
theorem rflagS_ok : PureOk 114 rflagS := by
  intro args ob V hs ho
  unfold rflagS at hs
  split at hs
  · split at hs
    · rename_i hx
      simp only [Option.some.injEq, Prod.mk.injEq] at hs
      obtain ⟨rfl, rfl⟩ := hs
      exact ⟨by simp [SV.okhs, (bV_tr hx).2], rfl, rflag_fn hx⟩
    · simp at hs
  · simp at hs
def ctCx : Nat → Option Hx.Spec
  | 60 => some (pureS runpkS)
  | 114 => some (pureS rflagS)
  | _ => none
theorem ctCx_ok : ∀ f s args H ob V L, ctCx f = some s → s args H = some (ob, V, L) → AllP ob → Gives Tryz.prog f args H (Is V L) := by
  intro f s args H ob V L h hs ho
  unfold ctCx at h
  split at h
  · simp at h; subst h; exact pureS_ok ⟨_, hTE⟩ (runpkS_ok) hs ho
  · simp at h; subst h; exact pureS_ok ⟨_, hTE⟩ (rflagS_ok) hs ho
  · simp at h
noncomputable def XCx : Tabs := tabs tr ft xt (fun _ => none) ctCx 20
theorem hXCx : TOk Tryz.prog (XCx) := ⟨hTE, hFT, ctCx_ok, hXT, fun t ks h => by simp [XCx, tabs] at h, mixed⟩
theorem wu8 {n : Int} (h0 : 0 ≤ n) (h1 : n < 18446744073709551616) : IntKind.u64.wrap n = n := by rw [wrap_u64]; omega
theorem rpk_eq {e g b l y : Int} (hf : fitC e g b) (hl : 0 ≤ l ∧ l ≤ 1) (hy : 0 ≤ y ∧ y ≤ 1) :
    IntKind.u64.wrap (IntKind.u64.wrap (IntKind.u64.wrap (IntKind.u64.wrap (IntKind.u64.wrap (IntKind.u64.wrap (IntKind.u64.wrap (IntKind.u64.wrap (IntKind.u64.wrap e * 2) + l) * 2) + y) * 2147483648) + IntKind.u64.wrap g) * 65536) + IntKind.u64.wrap b) = pkV e g b l y := by
  obtain ⟨a1, a2, a3, a4, a5, a6⟩ := hf
  rw [wu8 (n := e) (by omega) (by omega), wu8 (n := g) (by omega) (by omega), wu8 (n := b) (by omega) (by omega)]
  rw [wu8 (n := e * 2) (by omega) (by omega), wu8 (n := e * 2 + l) (by omega) (by omega), wu8 (n := (e * 2 + l) * 2) (by omega) (by omega), wu8 (n := (e * 2 + l) * 2 + y) (by omega) (by omega), wu8 (n := ((e * 2 + l) * 2 + y) * 2147483648) (by omega) (by omega), wu8 (n := ((e * 2 + l) * 2 + y) * 2147483648 + g) (by omega) (by omega), wu8 (n := (((e * 2 + l) * 2 + y) * 2147483648 + g) * 65536) (by omega) (by omega), wu8 (n := (((e * 2 + l) * 2 + y) * 2147483648 + g) * 65536 + b) (by omega) (by omega)]
  unfold pkV
  omega
set_option maxHeartbeats 1000000 in
theorem rcpk_fn {e g b : Int} {x y : SV} {l z : Bool} (hf : fitC e g b) (hx : bV x = some l) (hy : bV y = some z) : Gives Tryz.prog 43 [.agg [.int .i64 e, .int .i64 g, .int .i64 b, x, y]] [] (Is (.int .u64 (pkV e g b (b2 l) (b2 z))) []) := by
  have key : ∀ x y l z, (x = SV.tt ∧ l = 1 ∨ x = SV.ff ∧ l = 0) → (y = SV.tt ∧ z = 1 ∨ y = SV.ff ∧ z = 0) → Gives Tryz.prog 43 [.agg [.int .i64 e, .int .i64 g, .int .i64 b, x, y]] [] (Is (.int .u64 (pkV e g b l z)) []) := by
    intro x y l z hx hy
    refine gives_x hXCx (fn := Tryz.f43) rfl rfl rfl rfl fun ρ w' => ?_
    rcases hx with ⟨rfl, rfl⟩ | ⟨rfl, rfl⟩ <;> rcases hy with ⟨rfl, rfl⟩ | ⟨rfl, rfl⟩
    · refine sx hXCx [] 400 rfl (by (simp [-List.getD_eq_getElem?_getD, -List.length_eq_zero_iff, conjP])) ?_
      (refine ss_end hXCx [] rfl rfl trivial rfl rfl rfl rfl ?hv (by (repeat' (first | exact rfl | exact trivial | exact sim_refl _ | refine And.intro ?_ ?_))) (by (repeat' (first | exact rfl | exact trivial | exact sim_refl _ | refine And.intro ?_ ?_))) (by (repeat' (first | exact rfl | exact trivial | exact sim_refl _ | refine And.intro ?_ ?_))); (case hv => exact ⟨rfl, rpk_eq hf (by decide) (by decide)⟩))
    · refine sx hXCx [] 400 rfl (by (simp [-List.getD_eq_getElem?_getD, -List.length_eq_zero_iff, conjP])) ?_
      (refine ss_end hXCx [] rfl rfl trivial rfl rfl rfl rfl ?hv (by (repeat' (first | exact rfl | exact trivial | exact sim_refl _ | refine And.intro ?_ ?_))) (by (repeat' (first | exact rfl | exact trivial | exact sim_refl _ | refine And.intro ?_ ?_))) (by (repeat' (first | exact rfl | exact trivial | exact sim_refl _ | refine And.intro ?_ ?_))); (case hv => exact ⟨rfl, rpk_eq hf (by decide) (by decide)⟩))
    · refine sx hXCx [] 400 rfl (by (simp [-List.getD_eq_getElem?_getD, -List.length_eq_zero_iff, conjP])) ?_
      (refine ss_end hXCx [] rfl rfl trivial rfl rfl rfl rfl ?hv (by (repeat' (first | exact rfl | exact trivial | exact sim_refl _ | refine And.intro ?_ ?_))) (by (repeat' (first | exact rfl | exact trivial | exact sim_refl _ | refine And.intro ?_ ?_))) (by (repeat' (first | exact rfl | exact trivial | exact sim_refl _ | refine And.intro ?_ ?_))); (case hv => exact ⟨rfl, rpk_eq hf (by decide) (by decide)⟩))
    · refine sx hXCx [] 400 rfl (by (simp [-List.getD_eq_getElem?_getD, -List.length_eq_zero_iff, conjP])) ?_
      (refine ss_end hXCx [] rfl rfl trivial rfl rfl rfl rfl ?hv (by (repeat' (first | exact rfl | exact trivial | exact sim_refl _ | refine And.intro ?_ ?_))) (by (repeat' (first | exact rfl | exact trivial | exact sim_refl _ | refine And.intro ?_ ?_))) (by (repeat' (first | exact rfl | exact trivial | exact sim_refl _ | refine And.intro ?_ ?_))); (case hv => exact ⟨rfl, rpk_eq hf (by decide) (by decide)⟩))
  obtain ⟨x1, x2⟩ := bV_tr hx
  obtain ⟨y1, y2⟩ := bV_tr hy
  intro ρ w hS ho
  have e1 : SV.trs ρ [.agg [.int .i64 e, .int .i64 g, .int .i64 b, x, y]] = SV.trs ρ [.agg [.int .i64 e, .int .i64 g, .int .i64 b, if l then SV.tt else SV.ff, if z then SV.tt else SV.ff]] := by
    simp only [SV.trs, SV.tr, x1, y1]
  rw [e1]
  cases l <;> cases z
  · exact key .ff .ff 0 0 (.inr ⟨rfl, rfl⟩) (.inr ⟨rfl, rfl⟩) ρ w hS rfl
  · exact key .ff .tt 0 1 (.inr ⟨rfl, rfl⟩) (.inl ⟨rfl, rfl⟩) ρ w hS rfl
  · exact key .tt .ff 1 0 (.inl ⟨rfl, rfl⟩) (.inr ⟨rfl, rfl⟩) ρ w hS rfl
  · exact key .tt .tt 1 1 (.inl ⟨rfl, rfl⟩) (.inl ⟨rfl, rfl⟩) ρ w hS rfl
def rcpkS : List SV → Option (List Prop × SV)
  | [.agg [.int .i64 e, .int .i64 g, .int .i64 b, x, y]] => match bV x, bV y with
    | some l, some z => some ([0 ≤ e, e < 32768, 0 ≤ g, g < 2147483648, 0 ≤ b, b < 65536], .int .u64 (pkV e g b (b2 l) (b2 z)))
    | _, _ => none
  | _ => none
theorem rcpkS_ok : PureOk 43 rcpkS := by
  intro args ob V hs ho
  unfold rcpkS at hs
  split at hs
  · split at hs
    · rename_i hx hy
      simp only [Option.some.injEq, Prod.mk.injEq] at hs
      obtain ⟨rfl, rfl⟩ := hs
      have o1 := ho _ (List.mem_cons_self ..)
      have o2 := ho _ (List.mem_cons_of_mem _ (List.mem_cons_self ..))
      have o3 := ho _ (List.mem_cons_of_mem _ (List.mem_cons_of_mem _ (List.mem_cons_self ..)))
      have o4 := ho _ (List.mem_cons_of_mem _ (List.mem_cons_of_mem _ (List.mem_cons_of_mem _ (List.mem_cons_self ..))))
      have o5 := ho _ (List.mem_cons_of_mem _ (List.mem_cons_of_mem _ (List.mem_cons_of_mem _ (List.mem_cons_of_mem _ (List.mem_cons_self ..)))))
      have o6 := ho _ (List.mem_cons_of_mem _ (List.mem_cons_of_mem _ (List.mem_cons_of_mem _ (List.mem_cons_of_mem _ (List.mem_cons_of_mem _ (List.mem_cons_self ..))))))
      exact ⟨by simp [SV.okhs, SV.okh, (bV_tr hx).2, (bV_tr hy).2], rfl, rcpk_fn ⟨o1, o2, o3, o4, o5, o6⟩ hx hy⟩
    · simp at hs
  · simp at hs
end Go.Proofs.YtkkddjchkkaagaaGreatDoor
