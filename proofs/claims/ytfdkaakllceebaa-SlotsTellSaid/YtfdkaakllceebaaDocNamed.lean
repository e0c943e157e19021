/- Named blocks, by the document: the walk. -/
import Derived.Test.YtfdkaakllceebaaKeptInOrder
import Derived.Test.YtfdkaakllceebaaRefMake
import Derived.Test.YtfdkaakllceebaaNamedLaid
import Derived.Test.YtfdkaakllceebaaNamedSeen
import Derived.Test.YtfdkaakllceebaaHyc
namespace Go.Proofs.Ytfdkaakllceebaa
open Go Go.Hx
set_option maxRecDepth 8000
def ctRn : Nat → Option Hx.Spec
  | 68 => some (pureS rightS)
  | 59 => some (pureS rsizeS)
  | 33 => some (pureS (placeS slotF))
  | _ => none
theorem ctRn_ok : ∀ f s args H ob V L, ctRn f = some s → s args H = some (ob, V, L) → AllP ob → Gives Try.prog f args H (Is V L) := by
  intro f s args H ob V L h hs ho
  unfold ctRn at h
  split at h
  · simp at h; subst h; exact pureS_ok ⟨_, hTE⟩ (rightS_ok right68) hs ho
  · simp at h; subst h; exact pureS_ok ⟨_, hTE⟩ (rsizeS_ok) hs ho
  · simp at h; subst h; exact pureS_ok ⟨_, hTE⟩ (placeS_ok (v := slotF) rslot_fn) hs ho
  · simp at h
noncomputable def XRn : Tabs := tabs tr ft xt (fun _ => none) ctRn 0
theorem hXRn : TOk Try.prog (XRn) := ⟨hTE, hFT, ctRn_ok, hXT, fun t ks h => by simp [XRn, tabs] at h, mixed⟩
/-- A region that draws, where one row is made that no call waits for, and whose last ones wait for all others. -/
theorem ss_drawWL {P : Program} {X : Tabs} (hX : TOk P X) {Wb : (Nat → Nat × Nat) → World → Prop} {Rq : SV → List HE → Prop} {fn : Func} {nt : Nat} {H0 : List HE} {kk : List KI} {T : List (Nat × SV)} {H : List HE} {fs : List Fm} (n ia : Nat) (o' : SO) (l c : Nat) (b0 : Option Bool) (cs : List Ch) (m : Nat) {cs0 cs' : List Ch} {ob : List Prop} {T' : List (Nat × SV)} {H' : List HE} {id : Nat} {ops : Array Oper}
    (hl : lastsB (ops.toList.take n) (ops.toList.drop n) = true)
    (h : drawW X (fun s => runX X [] m s []) ia o' l c b0 cs (ops.toList.take n) nt T H = some (cs', ob, T', H')) (ho : conjP ob) (hs : SS hX Wb Rq ⟨cs', fs, fn, nt, H0, opsK (ops.toList.take n) (ops.toList.drop n) kk, T', H'⟩) :
    SS hX Wb Rq ⟨cs0, fs, fn, nt, H0, .code (.region id ops true) :: kk, T, H⟩ := by
  intro ρ0 w0 hw ρ a w hsat
  have hrec : RecOk hX (fun s => runX X [] m s []) := fun Wb R0 s h1 h2 => (runX_ok hX m [] Wb R0 s [] h1 h2).1
  simp only [WK]
  have := drawW_any hX hrec ia o' l c b0 fn nt H0 (Rof hX Wb Rq fs) ρ0 w0 cs cs' (ops.toList.take n) T T' H H' ob _ h (conjP_all ho) (hs ρ0 w0 hw) ρ a w hsat
  have h3 := any_more (ops.toList.drop n) (ops.toList.take n) hl a _ this
  rw [List.take_append_drop] at h3
  have h2 := wp_region_any (id := id) hX.mo h3
  rw [Array.toArray_toList] at h2
  exact h2
def rT (n i : Nat) (l : List Int) : List (Nat × SV) := [(1, .slice 0 0 n n), (2, .ptr 1 0), (6, slV (opL l) 2), (7, .int .i64 (i : Int))]
def rH (W l : List Int) : List HE := [WO W, cfN, slE (opL l) .i64 3]
section
variable {ρ : Nat → Nat × Nat} {w : World} {W l : List Int} {I : Act → World → Prop} {i j : Nat} {k : Int}
theorem clhR {P : Prop} (h : P := by repeat' (first | exact rfl | exact trivial | exact sim_refl _ | exact simO_refl _ | exact sim_slVr rfl | exact subE_same rfl ren_slE | assumption | refine And.intro ?_ ?_)) : P := h
theorem clhV {P : Prop} (h : P := by repeat' (first | exact rfl | exact trivial | exact sim_refl _ | exact simO_refl _ | refine And.intro ?_ ?_ | (simp; done) | (simp; omega) | (simp [mulS, List.take_of_length_le]; done))) : P := h
set_option maxHeartbeats 4000000 in
theorem e16_in (hi : i < 8) (hn : ¬ l = []) (hj : j < l.length) (hl : l.length ≤ 8) (hk : l.getD j 0 = k) (bk : ∀ cs T H, Sub (FEnv Try.prog XRn.TE hXRn.te Try.f36 Try.f36.ntmps [WO W] (Is (slV (opL (nmV W)) 1) [WO W, slE (opL (nmV W)) .i64 3]) ρ w) T H (rT W.length (i + 1) l) (rH W l) → SS hXRn (At ρ w) (Is (slV (opL (nmV W)) 1) [WO W, slE (opL (nmV W)) .i64 3]) ⟨cs, [], Try.f36, Try.f36.ntmps, [WO W], downLq (contF Try.f36 8 [I]), T, H⟩) : SS hXRn (At ρ w) (Is (slV (opL (nmV W)) 1) [WO W, slE (opL (nmV W)) .i64 3]) ⟨[], [], Try.f36, Try.f36.ntmps, [WO W], contF Try.f36 16 [I], [(1, .slice 0 0 W.length W.length), (2, .ptr 1 0), (6, .sbuf 2 1 0 l.length), (7, .int .i64 (i : Int)), (9, .int .i64 k), (10, .int .i64 (j : Int))], [WO W, cfN, .obj (.buf .i64 l 1 3)]⟩ := by
  have hX := hXRn
  have h1 : ¬ (j : Int) = (l.length : Int) := by omega
  have h2 : (j : Int) < (l.length : Int) := by omega
  have ewi : IntKind.i64.wrap ((i : Int) + 1) = ((i + 1 : Nat) : Int) := by rw [wi64 (by omega) (by omega)]; omega
  unfold rT rH at bk
  rw [opL_some hn] at bk
  dsimp only [slV, slE, cfN] at bk ⊢
  refine sx hX [] 4000 rfl (by (simp [-List.getD_eq_getElem?_getD, -List.length_eq_zero_iff, conjP])) ?_
  refine sx hX [.F] 4000 rfl (by (simp [-List.getD_eq_getElem?_getD, -List.length_eq_zero_iff, conjP, h1, h2, hj, cellOff, Int.toNat_natCast])) ?_
  refine sx hX [.F] 4000 rfl (by (simp [-List.getD_eq_getElem?_getD, -List.length_eq_zero_iff, conjP, addOP, hk, cellOff, Int.toNat_natCast])) ?_
  (refine bk _ _ _ (sub_of [0, 1, 2] rfl rfl rfl rfl ?tt ?hh ?ot ?ok); (case tt => (try simp only [ewi]); exact clhR); (case hh => exact clhR); (case ot => exact clkN); (case ok => exact clkN))
set_option maxHeartbeats 4000000 in
theorem e16_nil (hi : i < 8) (bk : ∀ cs T H, Sub (FEnv Try.prog XRn.TE hXRn.te Try.f36 Try.f36.ntmps [WO W] (Is (slV (opL (nmV W)) 1) [WO W, slE (opL (nmV W)) .i64 3]) ρ w) T H (rT W.length (i + 1) [k]) (rH W [k]) → SS hXRn (At ρ w) (Is (slV (opL (nmV W)) 1) [WO W, slE (opL (nmV W)) .i64 3]) ⟨cs, [], Try.f36, Try.f36.ntmps, [WO W], downLq (contF Try.f36 8 [I]), T, H⟩) : SS hXRn (At ρ w) (Is (slV (opL (nmV W)) 1) [WO W, slE (opL (nmV W)) .i64 3]) ⟨[], [], Try.f36, Try.f36.ntmps, [WO W], contF Try.f36 16 [I], [(1, .slice 0 0 W.length W.length), (2, .ptr 1 0), (6, .nilslice), (7, .int .i64 (i : Int)), (9, .int .i64 k), (10, .int .i64 0)], [WO W, cfN]⟩ := by
  have hX := hXRn
  have ewi : IntKind.i64.wrap ((i : Int) + 1) = ((i + 1 : Nat) : Int) := by rw [wi64 (by omega) (by omega)]; omega
  unfold rT rH at bk
  rw [opL_some (List.cons_ne_nil k [])] at bk
  dsimp only [slV, slE, cfN] at bk ⊢
  refine sxb hX [.r 17] [] 4000 rfl (by (simp [-List.getD_eq_getElem?_getD, -List.length_eq_zero_iff, conjP])) ?_
  refine sxb hX [.r 17] [.T] 4000 rfl (by (simp [-List.getD_eq_getElem?_getD, -List.length_eq_zero_iff, conjP, addOP])) ?_
  (refine ss_drawWL hX 12 6 (.ints .i64 [k] 3) 1 1 none [] 4000 rfl rfl ?ob ?go; (case ob => repeat' (first | exact rfl | exact trivial | refine And.intro ?_ ?_); all_goals (try simp [conjP, mulS]); all_goals (try omega)); (case go => refine sx hX [] 400 rfl (by first | exact trivial | simp [conjP]) ?_; refine bk _ _ _ (sub_of [0, 1, 6] rfl rfl rfl rfl ?tt ?hh ?ot ?ok); (case tt => (try simp only [ewi]); exact clhV); (case hh => exact clhV); (case ot => exact clkN); (case ok => exact clkN)))
set_option maxHeartbeats 4000000 in
theorem e16_new (hi : i < 8) (hn : ¬ l = []) (hj : j ≤ l.length) (hl : l.length ≤ 8) (hk : j = l.length ∨ ¬ l.getD j 0 = k) (bk : ∀ cs T H, Sub (FEnv Try.prog XRn.TE hXRn.te Try.f36 Try.f36.ntmps [WO W] (Is (slV (opL (nmV W)) 1) [WO W, slE (opL (nmV W)) .i64 3]) ρ w) T H (rT W.length (i + 1) (l.take j ++ [k] ++ l.drop j)) (rH W (l.take j ++ [k] ++ l.drop j)) → SS hXRn (At ρ w) (Is (slV (opL (nmV W)) 1) [WO W, slE (opL (nmV W)) .i64 3]) ⟨cs, [], Try.f36, Try.f36.ntmps, [WO W], downLq (contF Try.f36 8 [I]), T, H⟩) : SS hXRn (At ρ w) (Is (slV (opL (nmV W)) 1) [WO W, slE (opL (nmV W)) .i64 3]) ⟨[], [], Try.f36, Try.f36.ntmps, [WO W], contF Try.f36 16 [I], [(1, .slice 0 0 W.length W.length), (2, .ptr 1 0), (6, .sbuf 2 1 0 l.length), (7, .int .i64 (i : Int)), (9, .int .i64 k), (10, .int .i64 (j : Int))], [WO W, cfN, .obj (.buf .i64 l 1 3)]⟩ := by
  have hX := hXRn
  have ewi : IntKind.i64.wrap ((i : Int) + 1) = ((i + 1 : Nat) : Int) := by rw [wi64 (by omega) (by omega)]; omega
  unfold rT rH at bk
  rw [opL_some (l := l.take j ++ [k] ++ l.drop j) (by simp)] at bk
  dsimp only [slV, slE, cfN] at bk ⊢
  by_cases h1 : j = l.length
  · have h2 : (j : Int) = (l.length : Int) := by omega
    refine sxb hX [.r 17] [] 4000 rfl (by (simp [-List.getD_eq_getElem?_getD, -List.length_eq_zero_iff, conjP])) ?_
    refine sxb hX [.r 17] [.T] 4000 rfl (by (simp [-List.getD_eq_getElem?_getD, -List.length_eq_zero_iff, conjP, addOP, h2])) ?_
    (refine ss_drawWL hX 12 6 (.ints .i64 [k] 3) 1 1 none [] 4000 rfl rfl ?ob ?go; (case ob => repeat' (first | exact rfl | exact trivial | refine And.intro ?_ ?_); all_goals (try simp [conjP, mulS]); all_goals (try omega)); (case go => refine sx hX [] 400 rfl (by first | exact trivial | simp [conjP]) ?_; refine bk _ _ _ (sub_of [0, 1, 7] rfl rfl rfl rfl ?tt ?hh ?ot ?ok); (case tt => (try simp only [ewi]); exact clhV); (case hh => exact clhV); (case ot => exact clkN); (case ok => exact clkN)))
  · have hk := hk.resolve_left h1
    have h2 : ¬ (j : Int) = (l.length : Int) := by omega
    have h3 : (j : Int) < (l.length : Int) := by omega
    have h4 : j < l.length := by omega
    refine sxb hX [.r 17] [] 4000 rfl (by (simp [-List.getD_eq_getElem?_getD, -List.length_eq_zero_iff, conjP])) ?_
    refine sxb hX [.r 17] [.F] 4000 rfl (by (simp [-List.getD_eq_getElem?_getD, -List.length_eq_zero_iff, conjP, h2, h3, h4, cellOff, Int.toNat_natCast])) ?_
    refine sxb hX [.r 17] [.T] 4000 rfl (by (simp [-List.getD_eq_getElem?_getD, -List.length_eq_zero_iff, conjP, addOP, hk, cellOff, Int.toNat_natCast])) ?_
    (refine ss_drawWL hX 12 6 (.ints .i64 [k] 3) 1 1 none [] 4000 rfl rfl ?ob ?go; (case ob => repeat' (first | exact rfl | exact trivial | refine And.intro ?_ ?_); all_goals (try simp [conjP, mulS]); all_goals (try omega)); (case go => refine sx hX [] 400 rfl (by first | exact trivial | simp [conjP]) ?_; refine bk _ _ _ (sub_of [0, 1, 7] rfl rfl rfl rfl ?tt ?hh ?ot ?ok); (case tt => (try simp only [ewi]); exact clhV); (case hh => exact clhV); (case ot => exact clkN); (case ok => exact clkN)))
end
end Go.Proofs.Ytfdkaakllceebaa
