/- Control words: more of the document's functions, for any word. -/
import Derived.Test.YtmghcelohnlceaaGreatDoorControlTwo
import Derived.Test.YtmghcelohnlceaaGreatDoorRefArena
namespace Go.Proofs.YtmghcelohnlceaaGreatDoor
open Go Go.Hx
set_option maxRecDepth 8000
theorem rbusy_fn {w : Int} (h0 : 0 ≤ w) (h1 : w < 18446744073709551616) : Gives Tryz.prog 70 [.int .u64 w] [] (Is (.int .u64 (busyW w)) []) := by
  have e0 := ep_lo h0
  have e1 := ep_hi (w := w)
  have e2 := ge_lo (w := w)
  have e3 := ge_hi (w := w)
  have e4 := bl_lo (w := w)
  have e5 := bl_hi (w := w)
  refine gives_x hXCy (fn := Tryz.f70) rfl rfl rfl rfl fun ρ w' => ?_
  refine sx hXCy [] 400 rfl (by (simp [-List.getD_eq_getElem?_getD, -List.length_eq_zero_iff, conjP, h0, h1, e0, e1, e2, e3, e4, e5] <;> (first | omega | ((repeat' (refine And.intro ?_ ?_)) <;> (first | omega | exact decide_eq_false (by omega) | exact decide_eq_true (by omega)))))) ?_
  (refine ss_end hXCy [] rfl rfl trivial rfl rfl rfl rfl (by (repeat' (first | exact rfl | exact trivial | exact sim_refl _ | refine And.intro ?_ ?_))) (by (repeat' (first | exact rfl | exact trivial | exact sim_refl _ | refine And.intro ?_ ?_))) (by (repeat' (first | exact rfl | exact trivial | exact sim_refl _ | refine And.intro ?_ ?_))) (by (repeat' (first | exact rfl | exact trivial | exact sim_refl _ | refine And.intro ?_ ?_))))
def rbusyS : List SV → Option (List Prop × SV)
  | [.int .u64 w] => some ([0 ≤ w, w < 18446744073709551616], .int .u64 (busyW w))
  | _ => none
theorem rbusyS_ok : PureOk 70 rbusyS := by
  intro args ob V hs ho
  unfold rbusyS at hs
  split at hs
  · simp only [Option.some.injEq, Prod.mk.injEq] at hs
    obtain ⟨rfl, rfl⟩ := hs
    have o1 := ho _ (List.mem_cons_self ..)
    have o2 := ho _ (List.mem_cons_of_mem _ (List.mem_cons_self ..))
    exact ⟨rfl, rfl, rbusy_fn o1 o2⟩
  · simp at hs
theorem rwritten_fn {w : Int} (h0 : 0 ≤ w) (h1 : w < 18446744073709551616) (hl : liW w = true) (hb : buW w = true) (hg : geW w + 1 < 2147483648) : Gives Tryz.prog 73 [.int .u64 w] [] (Is (.tup [.int .u64 (writW w), .int .i64 0]) []) := by
  have e0 := ep_lo h0
  have e1 := ep_hi (w := w)
  have e2 := ge_lo (w := w)
  have e4 := bl_lo (w := w)
  have e5 := bl_hi (w := w)
  have e6 : IntKind.i64.wrap (geW w + 1) = geW w + 1 := wi64 (by omega) (by omega)
  refine gives_x hXCy (fn := Tryz.f73) rfl rfl rfl rfl fun ρ w' => ?_
  refine sx hXCy [] 400 rfl (by (simp [-List.getD_eq_getElem?_getD, -List.length_eq_zero_iff, conjP, h0, h1] <;> (first | omega | ((repeat' (refine And.intro ?_ ?_)) <;> (first | omega | exact decide_eq_false (by omega) | exact decide_eq_true (by omega)))))) ?_
  refine sx hXCy [.F] 400 rfl (by (simp [-List.getD_eq_getElem?_getD, -List.length_eq_zero_iff, conjP, addOP, hl] <;> (first | omega | ((repeat' (refine And.intro ?_ ?_)) <;> (first | omega | exact decide_eq_false (by omega) | exact decide_eq_true (by omega)))))) ?_
  refine sx hXCy [.F] 400 rfl (by (simp [-List.getD_eq_getElem?_getD, -List.length_eq_zero_iff, conjP, addOP, hb] <;> (first | omega | ((repeat' (refine And.intro ?_ ?_)) <;> (first | omega | exact decide_eq_false (by omega) | exact decide_eq_true (by omega)))))) ?_
  refine sx hXCy [.T] 400 rfl (by (simp [-List.getD_eq_getElem?_getD, -List.length_eq_zero_iff, conjP, addOP, e4] <;> (first | omega | ((repeat' (refine And.intro ?_ ?_)) <;> (first | omega | exact decide_eq_false (by omega) | exact decide_eq_true (by omega)))))) ?_
  refine sx hXCy [.T] 400 rfl (by (simp [-List.getD_eq_getElem?_getD, -List.length_eq_zero_iff, conjP, addOP] <;> (first | omega | ((repeat' (refine And.intro ?_ ?_)) <;> (first | omega | exact decide_eq_false (by omega) | exact decide_eq_true (by omega)))))) ?_
  refine sx hXCy [.T] 400 rfl (by (simp [-List.getD_eq_getElem?_getD, -List.length_eq_zero_iff, conjP, addOP, e6] <;> (first | omega | ((repeat' (refine And.intro ?_ ?_)) <;> (first | omega | exact decide_eq_false (by omega) | exact decide_eq_true (by omega)))))) ?_
  refine sx hXCy [.T] 400 rfl (by (simp [-List.getD_eq_getElem?_getD, -List.length_eq_zero_iff, conjP, addOP, e6] <;> (first | omega | ((repeat' (refine And.intro ?_ ?_)) <;> (first | omega | exact decide_eq_false (by omega) | exact decide_eq_true (by omega)))))) ?_
  refine sx hXCy [.T] 400 rfl (by (simp [-List.getD_eq_getElem?_getD, -List.length_eq_zero_iff, conjP, addOP, e0] <;> (first | omega | ((repeat' (refine And.intro ?_ ?_)) <;> (first | omega | exact decide_eq_false (by omega) | exact decide_eq_true (by omega)))))) ?_
  refine sx hXCy [.F] 400 rfl (by (simp [-List.getD_eq_getElem?_getD, -List.length_eq_zero_iff, conjP, e0, e1, e4, e5, e6] <;> (first | omega | ((repeat' (refine And.intro ?_ ?_)) <;> (first | omega | exact decide_eq_false (by omega) | exact decide_eq_true (by omega)))))) ?_
  (refine ss_end hXCy [] rfl rfl trivial rfl rfl rfl rfl ?hv (by (repeat' (first | exact rfl | exact trivial | exact sim_refl _ | refine And.intro ?_ ?_))) (by (repeat' (first | exact rfl | exact trivial | exact sim_refl _ | refine And.intro ?_ ?_))) (by (repeat' (first | exact rfl | exact trivial | exact sim_refl _ | refine And.intro ?_ ?_))); (case hv => exact ⟨⟨rfl, by rw [e6]; rfl⟩, ⟨rfl, rfl⟩, trivial⟩))
def rwrittenS : List SV → Option (List Prop × SV)
  | [.int .u64 w] => some ([0 ≤ w, w < 18446744073709551616, liW w = true, buW w = true, geW w + 1 < 2147483648], .tup [.int .u64 (writW w), .int .i64 0])
  | _ => none
theorem rwrittenS_ok : PureOk 73 rwrittenS := by
  intro args ob V hs ho
  unfold rwrittenS at hs
  split at hs
  · simp only [Option.some.injEq, Prod.mk.injEq] at hs
    obtain ⟨rfl, rfl⟩ := hs
    have o1 := ho _ (List.mem_cons_self ..)
    have o2 := ho _ (List.mem_cons_of_mem _ (List.mem_cons_self ..))
    have o3 := ho _ (List.mem_cons_of_mem _ (List.mem_cons_of_mem _ (List.mem_cons_self ..)))
    have o4 := ho _ (List.mem_cons_of_mem _ (List.mem_cons_of_mem _ (List.mem_cons_of_mem _ (List.mem_cons_self ..))))
    have o5 := ho _ (List.mem_cons_of_mem _ (List.mem_cons_of_mem _ (List.mem_cons_of_mem _ (List.mem_cons_of_mem _ (List.mem_cons_self ..)))))
    exact ⟨rfl, rfl, rwritten_fn o1 o2 o3 o4 o5⟩
  · simp at hs
set_option maxHeartbeats 2000000 in
theorem rstill_fn {a b : Int} (a0 : 0 ≤ a) (a1 : a < 18446744073709551616) (b0 : 0 ≤ b) (b1 : b < 18446744073709551616) : Gives Tryz.prog 75 [.int .u64 a, .int .u64 b] [] (Is (.bool (stillB a b)) []) := by
  have e2 := ge_lo (w := a)
  have e3 := ge_hi (w := a)
  have e6 : IntKind.i64.wrap (geW a + 1) = geW a + 1 := wi64 (by omega) (by omega)
  refine gives_x hXCy (fn := Tryz.f75) rfl rfl rfl rfl fun ρ w' => ?_
  by_cases c1 : epW a = epW b
  · rcases c2 : liW a with _ | _
    · refine sx hXCy [] 400 rfl (by (simp [-List.getD_eq_getElem?_getD, -List.length_eq_zero_iff, conjP, a0, a1, b0, b1] <;> (first | omega | ((repeat' (refine And.intro ?_ ?_)) <;> (first | omega | exact decide_eq_false (by omega) | exact decide_eq_true (by omega)))))) ?_
      refine sx hXCy [.T] 400 rfl (by (simp [-List.getD_eq_getElem?_getD, -List.length_eq_zero_iff, conjP, addOP, c1] <;> (first | omega | ((repeat' (refine And.intro ?_ ?_)) <;> (first | omega | exact decide_eq_false (by omega) | exact decide_eq_true (by omega)))))) ?_
      refine sx hXCy [.F] 400 rfl (by (simp [-List.getD_eq_getElem?_getD, -List.length_eq_zero_iff, conjP, addOP, c2] <;> (first | omega | ((repeat' (refine And.intro ?_ ?_)) <;> (first | omega | exact decide_eq_false (by omega) | exact decide_eq_true (by omega)))))) ?_
      (refine ss_end hXCy [] rfl rfl trivial rfl rfl rfl rfl ?hv (by (repeat' (first | exact rfl | exact trivial | exact sim_refl _ | refine And.intro ?_ ?_))) (by (repeat' (first | exact rfl | exact trivial | exact sim_refl _ | refine And.intro ?_ ?_))) (by (repeat' (first | exact rfl | exact trivial | exact sim_refl _ | refine And.intro ?_ ?_))); (case hv => (have hq : stillB a b = false := by simp [stillB, c1, c2]); rw [hq]; first | ((repeat' (first | exact rfl | exact trivial | exact sim_refl _ | refine And.intro ?_ ?_)); done) | (refine simbb ?_; simp [*]; done)))
    · rcases c3 : liW b with _ | _
      · refine sx hXCy [] 400 rfl (by (simp [-List.getD_eq_getElem?_getD, -List.length_eq_zero_iff, conjP, a0, a1, b0, b1] <;> (first | omega | ((repeat' (refine And.intro ?_ ?_)) <;> (first | omega | exact decide_eq_false (by omega) | exact decide_eq_true (by omega)))))) ?_
        refine sx hXCy [.T] 400 rfl (by (simp [-List.getD_eq_getElem?_getD, -List.length_eq_zero_iff, conjP, addOP, c1] <;> (first | omega | ((repeat' (refine And.intro ?_ ?_)) <;> (first | omega | exact decide_eq_false (by omega) | exact decide_eq_true (by omega)))))) ?_
        refine sx hXCy [.T] 400 rfl (by (simp [-List.getD_eq_getElem?_getD, -List.length_eq_zero_iff, conjP, addOP, c2] <;> (first | omega | ((repeat' (refine And.intro ?_ ?_)) <;> (first | omega | exact decide_eq_false (by omega) | exact decide_eq_true (by omega)))))) ?_
        refine sx hXCy [.F] 400 rfl (by (simp [-List.getD_eq_getElem?_getD, -List.length_eq_zero_iff, conjP, addOP, c3] <;> (first | omega | ((repeat' (refine And.intro ?_ ?_)) <;> (first | omega | exact decide_eq_false (by omega) | exact decide_eq_true (by omega)))))) ?_
        (refine ss_end hXCy [] rfl rfl trivial rfl rfl rfl rfl ?hv (by (repeat' (first | exact rfl | exact trivial | exact sim_refl _ | refine And.intro ?_ ?_))) (by (repeat' (first | exact rfl | exact trivial | exact sim_refl _ | refine And.intro ?_ ?_))) (by (repeat' (first | exact rfl | exact trivial | exact sim_refl _ | refine And.intro ?_ ?_))); (case hv => (have hq : stillB a b = false := by simp [stillB, c1, c2, c3]); rw [hq]; first | ((repeat' (first | exact rfl | exact trivial | exact sim_refl _ | refine And.intro ?_ ?_)); done) | (refine simbb ?_; simp [c3]; done)))
      · by_cases c4 : geW a = geW b
        · refine sx hXCy [] 400 rfl (by (simp [-List.getD_eq_getElem?_getD, -List.length_eq_zero_iff, conjP, a0, a1, b0, b1] <;> (first | omega | ((repeat' (refine And.intro ?_ ?_)) <;> (first | omega | exact decide_eq_false (by omega) | exact decide_eq_true (by omega)))))) ?_
          refine sx hXCy [.T] 400 rfl (by (simp [-List.getD_eq_getElem?_getD, -List.length_eq_zero_iff, conjP, addOP, c1] <;> (first | omega | ((repeat' (refine And.intro ?_ ?_)) <;> (first | omega | exact decide_eq_false (by omega) | exact decide_eq_true (by omega)))))) ?_
          refine sx hXCy [.T] 400 rfl (by (simp [-List.getD_eq_getElem?_getD, -List.length_eq_zero_iff, conjP, addOP, c2] <;> (first | omega | ((repeat' (refine And.intro ?_ ?_)) <;> (first | omega | exact decide_eq_false (by omega) | exact decide_eq_true (by omega)))))) ?_
          refine sx hXCy [.T] 400 rfl (by (simp [-List.getD_eq_getElem?_getD, -List.length_eq_zero_iff, conjP, addOP, c3] <;> (first | omega | ((repeat' (refine And.intro ?_ ?_)) <;> (first | omega | exact decide_eq_false (by omega) | exact decide_eq_true (by omega)))))) ?_
          refine sx hXCy [.T] 400 rfl (by (simp [-List.getD_eq_getElem?_getD, -List.length_eq_zero_iff, conjP, addOP, c4] <;> (first | omega | ((repeat' (refine And.intro ?_ ?_)) <;> (first | omega | exact decide_eq_false (by omega) | exact decide_eq_true (by omega)))))) ?_
          (refine ss_end hXCy [] rfl rfl trivial rfl rfl rfl rfl ?hv (by (repeat' (first | exact rfl | exact trivial | exact sim_refl _ | refine And.intro ?_ ?_))) (by (repeat' (first | exact rfl | exact trivial | exact sim_refl _ | refine And.intro ?_ ?_))) (by (repeat' (first | exact rfl | exact trivial | exact sim_refl _ | refine And.intro ?_ ?_))); (case hv => (have hq : stillB a b = true := by simp [stillB, c1, c2, c3, c4]); rw [hq]; first | ((repeat' (first | exact rfl | exact trivial | exact sim_refl _ | refine And.intro ?_ ?_)); done) | (refine simbb ?_; simp [*]; done)))
        · by_cases c5 : geW a + 1 = geW b
          · rcases c6 : buW b with _ | _
            · have e7 : IntKind.i64.wrap (geW b) = geW b := wi64 (by omega) (by omega)
              refine sx hXCy [] 400 rfl (by (simp [-List.getD_eq_getElem?_getD, -List.length_eq_zero_iff, conjP, a0, a1, b0, b1] <;> (first | omega | ((repeat' (refine And.intro ?_ ?_)) <;> (first | omega | exact decide_eq_false (by omega) | exact decide_eq_true (by omega)))))) ?_
              refine sx hXCy [.T] 400 rfl (by (simp [-List.getD_eq_getElem?_getD, -List.length_eq_zero_iff, conjP, addOP, c1] <;> (first | omega | ((repeat' (refine And.intro ?_ ?_)) <;> (first | omega | exact decide_eq_false (by omega) | exact decide_eq_true (by omega)))))) ?_
              refine sx hXCy [.T] 400 rfl (by (simp [-List.getD_eq_getElem?_getD, -List.length_eq_zero_iff, conjP, addOP, c2] <;> (first | omega | ((repeat' (refine And.intro ?_ ?_)) <;> (first | omega | exact decide_eq_false (by omega) | exact decide_eq_true (by omega)))))) ?_
              refine sx hXCy [.T] 400 rfl (by (simp [-List.getD_eq_getElem?_getD, -List.length_eq_zero_iff, conjP, addOP, c3] <;> (first | omega | ((repeat' (refine And.intro ?_ ?_)) <;> (first | omega | exact decide_eq_false (by omega) | exact decide_eq_true (by omega)))))) ?_
              refine sx hXCy [.F] 400 rfl (by (simp [-List.getD_eq_getElem?_getD, -List.length_eq_zero_iff, conjP, addOP, c4] <;> (first | omega | ((repeat' (refine And.intro ?_ ?_)) <;> (first | omega | exact decide_eq_false (by omega) | exact decide_eq_true (by omega)))))) ?_
              refine sx hXCy [.T] 400 rfl (by (simp [-List.getD_eq_getElem?_getD, -List.length_eq_zero_iff, conjP, addOP, c5, e7] <;> (first | omega | ((repeat' (refine And.intro ?_ ?_)) <;> (first | omega | exact decide_eq_false (by omega) | exact decide_eq_true (by omega)))))) ?_
              (refine ss_end hXCy [] rfl rfl trivial rfl rfl rfl rfl ?hv (by (repeat' (first | exact rfl | exact trivial | exact sim_refl _ | refine And.intro ?_ ?_))) (by (repeat' (first | exact rfl | exact trivial | exact sim_refl _ | refine And.intro ?_ ?_))) (by (repeat' (first | exact rfl | exact trivial | exact sim_refl _ | refine And.intro ?_ ?_))); (case hv => (have hq : stillB a b = true := by simp [stillB, c1, c2, c3, c5, c6]); rw [hq]; first | ((repeat' (first | exact rfl | exact trivial | exact sim_refl _ | refine And.intro ?_ ?_)); done) | (refine simbb ?_; simp [c6]; done)))
            · have e7 : IntKind.i64.wrap (geW b) = geW b := wi64 (by omega) (by omega)
              refine sx hXCy [] 400 rfl (by (simp [-List.getD_eq_getElem?_getD, -List.length_eq_zero_iff, conjP, a0, a1, b0, b1] <;> (first | omega | ((repeat' (refine And.intro ?_ ?_)) <;> (first | omega | exact decide_eq_false (by omega) | exact decide_eq_true (by omega)))))) ?_
              refine sx hXCy [.T] 400 rfl (by (simp [-List.getD_eq_getElem?_getD, -List.length_eq_zero_iff, conjP, addOP, c1] <;> (first | omega | ((repeat' (refine And.intro ?_ ?_)) <;> (first | omega | exact decide_eq_false (by omega) | exact decide_eq_true (by omega)))))) ?_
              refine sx hXCy [.T] 400 rfl (by (simp [-List.getD_eq_getElem?_getD, -List.length_eq_zero_iff, conjP, addOP, c2] <;> (first | omega | ((repeat' (refine And.intro ?_ ?_)) <;> (first | omega | exact decide_eq_false (by omega) | exact decide_eq_true (by omega)))))) ?_
              refine sx hXCy [.T] 400 rfl (by (simp [-List.getD_eq_getElem?_getD, -List.length_eq_zero_iff, conjP, addOP, c3] <;> (first | omega | ((repeat' (refine And.intro ?_ ?_)) <;> (first | omega | exact decide_eq_false (by omega) | exact decide_eq_true (by omega)))))) ?_
              refine sx hXCy [.F] 400 rfl (by (simp [-List.getD_eq_getElem?_getD, -List.length_eq_zero_iff, conjP, addOP, c4] <;> (first | omega | ((repeat' (refine And.intro ?_ ?_)) <;> (first | omega | exact decide_eq_false (by omega) | exact decide_eq_true (by omega)))))) ?_
              refine sx hXCy [.T] 400 rfl (by (simp [-List.getD_eq_getElem?_getD, -List.length_eq_zero_iff, conjP, addOP, c5, e7] <;> (first | omega | ((repeat' (refine And.intro ?_ ?_)) <;> (first | omega | exact decide_eq_false (by omega) | exact decide_eq_true (by omega)))))) ?_
              (refine ss_end hXCy [] rfl rfl trivial rfl rfl rfl rfl ?hv (by (repeat' (first | exact rfl | exact trivial | exact sim_refl _ | refine And.intro ?_ ?_))) (by (repeat' (first | exact rfl | exact trivial | exact sim_refl _ | refine And.intro ?_ ?_))) (by (repeat' (first | exact rfl | exact trivial | exact sim_refl _ | refine And.intro ?_ ?_))); (case hv => (have hq : stillB a b = false := by simp [stillB, c1, c2, c3, c4, c6]); rw [hq]; first | ((repeat' (first | exact rfl | exact trivial | exact sim_refl _ | refine And.intro ?_ ?_)); done) | (refine simbb ?_; simp [c6]; done)))
          · refine sx hXCy [] 400 rfl (by (simp [-List.getD_eq_getElem?_getD, -List.length_eq_zero_iff, conjP, a0, a1, b0, b1] <;> (first | omega | ((repeat' (refine And.intro ?_ ?_)) <;> (first | omega | exact decide_eq_false (by omega) | exact decide_eq_true (by omega)))))) ?_
            refine sx hXCy [.T] 400 rfl (by (simp [-List.getD_eq_getElem?_getD, -List.length_eq_zero_iff, conjP, addOP, c1] <;> (first | omega | ((repeat' (refine And.intro ?_ ?_)) <;> (first | omega | exact decide_eq_false (by omega) | exact decide_eq_true (by omega)))))) ?_
            refine sx hXCy [.T] 400 rfl (by (simp [-List.getD_eq_getElem?_getD, -List.length_eq_zero_iff, conjP, addOP, c2] <;> (first | omega | ((repeat' (refine And.intro ?_ ?_)) <;> (first | omega | exact decide_eq_false (by omega) | exact decide_eq_true (by omega)))))) ?_
            refine sx hXCy [.T] 400 rfl (by (simp [-List.getD_eq_getElem?_getD, -List.length_eq_zero_iff, conjP, addOP, c3] <;> (first | omega | ((repeat' (refine And.intro ?_ ?_)) <;> (first | omega | exact decide_eq_false (by omega) | exact decide_eq_true (by omega)))))) ?_
            refine sx hXCy [.F] 400 rfl (by (simp [-List.getD_eq_getElem?_getD, -List.length_eq_zero_iff, conjP, addOP, c4] <;> (first | omega | ((repeat' (refine And.intro ?_ ?_)) <;> (first | omega | exact decide_eq_false (by omega) | exact decide_eq_true (by omega)))))) ?_
            refine sx hXCy [.F] 400 rfl (by (simp [-List.getD_eq_getElem?_getD, -List.length_eq_zero_iff, conjP, addOP, c5, e6] <;> (first | omega | ((repeat' (refine And.intro ?_ ?_)) <;> (first | omega | exact decide_eq_false (by omega) | exact decide_eq_true (by omega)))))) ?_
            (refine ss_end hXCy [] rfl rfl trivial rfl rfl rfl rfl ?hv (by (repeat' (first | exact rfl | exact trivial | exact sim_refl _ | refine And.intro ?_ ?_))) (by (repeat' (first | exact rfl | exact trivial | exact sim_refl _ | refine And.intro ?_ ?_))) (by (repeat' (first | exact rfl | exact trivial | exact sim_refl _ | refine And.intro ?_ ?_))); (case hv => (have hq : stillB a b = false := by simp [stillB, c1, c2, c3, c4, c5]); rw [hq]; first | ((repeat' (first | exact rfl | exact trivial | exact sim_refl _ | refine And.intro ?_ ?_)); done) | (refine simbb ?_; simp [*]; done)))
  · refine sx hXCy [] 400 rfl (by (simp [-List.getD_eq_getElem?_getD, -List.length_eq_zero_iff, conjP, a0, a1, b0, b1] <;> (first | omega | ((repeat' (refine And.intro ?_ ?_)) <;> (first | omega | exact decide_eq_false (by omega) | exact decide_eq_true (by omega)))))) ?_
    refine sx hXCy [.F] 400 rfl (by (simp [-List.getD_eq_getElem?_getD, -List.length_eq_zero_iff, conjP, addOP, c1] <;> (first | omega | ((repeat' (refine And.intro ?_ ?_)) <;> (first | omega | exact decide_eq_false (by omega) | exact decide_eq_true (by omega)))))) ?_
    (refine ss_end hXCy [] rfl rfl trivial rfl rfl rfl rfl ?hv (by (repeat' (first | exact rfl | exact trivial | exact sim_refl _ | refine And.intro ?_ ?_))) (by (repeat' (first | exact rfl | exact trivial | exact sim_refl _ | refine And.intro ?_ ?_))) (by (repeat' (first | exact rfl | exact trivial | exact sim_refl _ | refine And.intro ?_ ?_))); (case hv => (have hq : stillB a b = false := by simp [stillB, c1]); rw [hq]; first | ((repeat' (first | exact rfl | exact trivial | exact sim_refl _ | refine And.intro ?_ ?_)); done) | (refine simbb ?_; simp [*]; done)))
def rstillS : List SV → Option (List Prop × SV)
  | [.int .u64 a, .int .u64 b] => some ([0 ≤ a, a < 18446744073709551616, 0 ≤ b, b < 18446744073709551616], .bool (stillB a b))
  | _ => none
theorem rstillS_ok : PureOk 75 rstillS := by
  intro args ob V hs ho
  unfold rstillS at hs
  split at hs
  · simp only [Option.some.injEq, Prod.mk.injEq] at hs
    obtain ⟨rfl, rfl⟩ := hs
    have o1 := ho _ (List.mem_cons_self ..)
    have o2 := ho _ (List.mem_cons_of_mem _ (List.mem_cons_self ..))
    have o3 := ho _ (List.mem_cons_of_mem _ (List.mem_cons_of_mem _ (List.mem_cons_self ..)))
    have o4 := ho _ (List.mem_cons_of_mem _ (List.mem_cons_of_mem _ (List.mem_cons_of_mem _ (List.mem_cons_self ..))))
    exact ⟨rfl, rfl, rstill_fn o1 o2 o3 o4⟩
  · simp at hs
end Go.Proofs.YtmghcelohnlceaaGreatDoor

/- More of the document's arena's steps. -/
namespace Go.Proofs.YtmghcelohnlceaaGreatDoor
open Go Go.Hx
set_option maxRecDepth 8000


section
variable {s : Ar} {i : Int} (h0 : 0 ≤ i) (h1 : i < s.W.length) (hs : 0 ≤ s.st) (hs' : s.st < 9000000000000000000)
include h0 h1 hs hs'
set_option maxHeartbeats 4000000 in
theorem raLoad_fn : Gives Tryz.prog 66 [.ptr 0 0, .int .i64 i] [RO 1 s, WO s.W] (Is (.int .u64 (s.W.getD i.toNat 0)) [RO 1 (ldA s i), WO s.W]) := by
  have e1 : IntKind.i64.wrap (s.st + 1) = s.st + 1 := wi64 (by omega) (by omega)
  refine gives_x hXRa (fn := Tryz.f66) rfl rfl rfl rfl fun ρ w => ?_
  refine sx hXRa [] 4000 rfl (by (simp [-List.getD_eq_getElem?_getD, -List.length_eq_zero_iff, conjP] <;> (first | omega | ((repeat' (refine And.intro ?_ ?_)) <;> (first | omega | exact decide_eq_false (by omega) | exact decide_eq_true (by omega)))))) ?_
  refine sx hXRa [.T] 4000 rfl (by (simp [-List.getD_eq_getElem?_getD, -List.length_eq_zero_iff, conjP, addOP, h0] <;> (first | omega | ((repeat' (refine And.intro ?_ ?_)) <;> (first | omega | exact decide_eq_false (by omega) | exact decide_eq_true (by omega)))))) ?_
  refine sx hXRa [.T] 4000 rfl (by (simp [-List.getD_eq_getElem?_getD, -List.length_eq_zero_iff, conjP, h0, h1] <;> (first | omega | ((repeat' (refine And.intro ?_ ?_)) <;> (first | omega | exact decide_eq_false (by omega) | exact decide_eq_true (by omega)))))) ?_
  (refine ss_end hXRa [0, 1] rfl rfl trivial rfl rfl rfl rfl ?_ ?_ (by (repeat' (first | exact rfl | exact trivial | exact sim_refl _ | refine And.intro ?_ ?_))) (by (repeat' (first | exact rfl | exact trivial | exact sim_refl _ | refine And.intro ?_ ?_))); all_goals (simp only [ldA, e1, Nat.add_zero]; (repeat' (first | exact rfl | exact trivial | exact sim_refl _ | refine And.intro ?_ ?_))))
set_option maxHeartbeats 4000000 in
theorem raSwap_fn (o n : Int) : Gives Tryz.prog 69 [.ptr 0 0, .int .i64 i, .int .u64 o, .int .u64 n] [RO 1 s, WO s.W] (Is (.bool (decide (s.W.getD i.toNat 0 = o))) [RO 1 (swA s i o n), WO (swA s i o n).W]) := by
  have e1 : IntKind.i64.wrap (s.st + 1) = s.st + 1 := wi64 (by omega) (by omega)
  have e2 : (s.W.set i.toNat n).getD i.toNat 0 = n := by rw [set_getD, if_pos ⟨rfl, by omega⟩]
  refine gives_x hXRa (fn := Tryz.f69) rfl rfl rfl rfl fun ρ w => ?_
  refine sx hXRa [] 4000 rfl (by (simp [-List.getD_eq_getElem?_getD, -List.length_eq_zero_iff, conjP] <;> (first | omega | ((repeat' (refine And.intro ?_ ?_)) <;> (first | omega | exact decide_eq_false (by omega) | exact decide_eq_true (by omega)))))) ?_
  refine sx hXRa [.T] 4000 rfl (by (simp [-List.getD_eq_getElem?_getD, -List.length_eq_zero_iff, conjP, addOP, h0] <;> (first | omega | ((repeat' (refine And.intro ?_ ?_)) <;> (first | omega | exact decide_eq_false (by omega) | exact decide_eq_true (by omega)))))) ?_
  refine sx hXRa [.T] 4000 rfl (by (simp [-List.getD_eq_getElem?_getD, -List.length_eq_zero_iff, conjP, h0, h1] <;> (first | omega | ((repeat' (refine And.intro ?_ ?_)) <;> (first | omega | exact decide_eq_false (by omega) | exact decide_eq_true (by omega)))))) ?_
  refine ss_pb hXRa [] [] 4000 rfl (fun hb0 => ?_) (fun hb0 => ?_)
  · try simp [-List.getD_eq_getElem?_getD, -List.length_eq_zero_iff] at hb0
    refine sx hXRa [.T] 4000 rfl (by (simp [-List.getD_eq_getElem?_getD, -List.length_eq_zero_iff, conjP, h0, h1, hb0] <;> (first | omega | ((repeat' (refine And.intro ?_ ?_)) <;> (first | omega | exact decide_eq_false (by omega) | exact decide_eq_true (by omega)))))) ?_
    (refine ss_end hXRa [0, 1] rfl rfl trivial rfl rfl rfl rfl ?_ ?_ (by (repeat' (first | exact rfl | exact trivial | exact sim_refl _ | refine And.intro ?_ ?_))) (by (repeat' (first | exact rfl | exact trivial | exact sim_refl _ | refine And.intro ?_ ?_))); all_goals (first | ((have hc : s.W.getD i.toNat 0 = o := by simpa [h0, h1] using hb0); (simp only [swA, swW, e1, e2, hc, if_true, decide_true, Nat.add_zero]; (repeat' (first | exact rfl | exact trivial | exact sim_refl _ | (simp; done) | refine And.intro ?_ ?_)))) | ((have hc : ¬ s.W.getD i.toNat 0 = o := by simpa [h0, h1] using hb0); (simp only [swA, swW, e1, hc, if_false, decide_false, Nat.add_zero, List.length_set]; (repeat' (first | exact rfl | exact trivial | exact sim_refl _ | (simp; done) | refine And.intro ?_ ?_))))))
  · try simp [-List.getD_eq_getElem?_getD, -List.length_eq_zero_iff] at hb0
    refine sx hXRa [.F] 4000 rfl (by (simp [-List.getD_eq_getElem?_getD, -List.length_eq_zero_iff, conjP, h0, h1, hb0] <;> (first | omega | ((repeat' (refine And.intro ?_ ?_)) <;> (first | omega | exact decide_eq_false (by omega) | exact decide_eq_true (by omega)))))) ?_
    (refine ss_end hXRa [0, 1] rfl rfl trivial rfl rfl rfl rfl ?_ ?_ (by (repeat' (first | exact rfl | exact trivial | exact sim_refl _ | refine And.intro ?_ ?_))) (by (repeat' (first | exact rfl | exact trivial | exact sim_refl _ | refine And.intro ?_ ?_))); all_goals (first | ((have hc : s.W.getD i.toNat 0 = o := by simpa [h0, h1] using hb0); (simp only [swA, swW, e1, e2, hc, if_true, decide_true, Nat.add_zero, List.length_set]; (repeat' (first | exact rfl | exact trivial | exact sim_refl _ | (simp; done) | refine And.intro ?_ ?_)))) | ((have hc : ¬ s.W.getD i.toNat 0 = o := by simpa [h0, h1] using hb0); (simp only [swA, swW, e1, hc, if_false, decide_false, Nat.add_zero]; (repeat' (first | exact rfl | exact trivial | exact sim_refl _ | (simp; done) | refine And.intro ?_ ?_))))))
end
def raLoadS : Hx.Spec := fun args H => match args with
  | [.ptr h 0, .int .i64 i] => match raP H h with
    | some (hw, ⟨W, st, _kd, _wd, _vl, _ch⟩, ob) => some ((0 ≤ i) :: (i < W.length) :: (0 ≤ st) :: (st < 9000000000000000000) :: ob, .int .u64 (W.getD i.toNat 0), (H.set h (ROx hw W (st + 1) 1 i (W.getD i.toNat 0) false)).set hw (WO W))
    | none => none
  | _ => none
theorem raLoadS_ok {args : List SV} {H : List HE} {ob : List Prop} {V : SV} {L : List HE} (hs : raLoadS args H = some (ob, V, L)) (ho : AllP ob) : Gives Tryz.prog 66 args H (Is V L) := by
  unfold raLoadS at hs
  split at hs
  · rename_i _ h i
    split at hs
    · rename_i _ hw W st kd wd vl ch ob' hp
      simp only [Option.some.injEq, Prod.mk.injEq] at hs
      obtain ⟨rfl, rfl, rfl⟩ := hs
      have q1 := ho _ (List.mem_cons_self ..)
      have q2 := ho _ (List.mem_cons_of_mem _ (List.mem_cons_self ..))
      have q3 := ho _ (List.mem_cons_of_mem _ (List.mem_cons_of_mem _ (List.mem_cons_self ..)))
      have q4 := ho _ (List.mem_cons_of_mem _ (List.mem_cons_of_mem _ (List.mem_cons_of_mem _ (List.mem_cons_self ..))))
      obtain ⟨_, g1, g2, g3⟩ := raP_ok hp fun p hp => ho p (by simp [hp])
      exact frame2n (H := H) (h0 := h) (h1 := hw) ⟨_, hTE⟩ (raLoad_fn (s := ⟨W, st, kd, wd, vl, ch⟩) q1 q2 q3 q4) rfl rfl rfl g3 g1 g2 rfl rfl rfl
    · simp at hs
  · simp at hs
def raSwapS : Hx.Spec := fun args H => match args with
  | [.ptr h 0, .int .i64 i, .int .u64 o, .int .u64 n] => match raP H h with
    | some (hw, ⟨W, st, _kd, _wd, _vl, _ch⟩, ob) => some ((0 ≤ i) :: (i < W.length) :: (0 ≤ st) :: (st < 9000000000000000000) :: ob, .bool (decide (W.getD i.toNat 0 = o)), (H.set h (ROx hw (swW W i o n) (st + 1) 3 i (if W.getD i.toNat 0 = o then n else W.getD i.toNat 0) (decide (W.getD i.toNat 0 = o)))).set hw (WO (swW W i o n)))
    | none => none
  | _ => none
theorem raSwapS_ok {args : List SV} {H : List HE} {ob : List Prop} {V : SV} {L : List HE} (hs : raSwapS args H = some (ob, V, L)) (ho : AllP ob) : Gives Tryz.prog 69 args H (Is V L) := by
  unfold raSwapS at hs
  split at hs
  · rename_i _ h i o n
    split at hs
    · rename_i _ hw W st kd wd vl ch ob' hp
      simp only [Option.some.injEq, Prod.mk.injEq] at hs
      obtain ⟨rfl, rfl, rfl⟩ := hs
      have q1 := ho _ (List.mem_cons_self ..)
      have q2 := ho _ (List.mem_cons_of_mem _ (List.mem_cons_self ..))
      have q3 := ho _ (List.mem_cons_of_mem _ (List.mem_cons_of_mem _ (List.mem_cons_self ..)))
      have q4 := ho _ (List.mem_cons_of_mem _ (List.mem_cons_of_mem _ (List.mem_cons_of_mem _ (List.mem_cons_self ..))))
      obtain ⟨_, g1, g2, g3⟩ := raP_ok hp fun p hp => ho p (by simp [hp])
      exact frame2n (H := H) (h0 := h) (h1 := hw) ⟨_, hTE⟩ (raSwap_fn (s := ⟨W, st, kd, wd, vl, ch⟩) q1 q2 q3 q4 o n) rfl rfl rfl g3 g1 g2 rfl rfl rfl
    · simp at hs
  · simp at hs
/-! What arenas are made. -/
end Go.Proofs.YtmghcelohnlceaaGreatDoor
