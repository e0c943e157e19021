/- SlotsNamed: the walk. -/
import Derived.Test.YtfdkaakllceebaaNamedLaid
namespace Go.Proofs.Ytfdkaakllceebaa
open Go Go.Hx
set_option maxRecDepth 8000
/-- The words at the slots are words. -/
def bdN (W : List Int) : Prop := ∀ j, j < 8 → 0 ≤ W.getD (5 + j) 0 ∧ W.getD (5 + j) 0 < 18446744073709551616
def cfg7S : List SV → Option (List Prop × SV)
  | [.int .i64 n] => some ([n = 7], C9 1 4 8 4 4 2 6 2 2)
  | _ => none
theorem cfg7S_ok : PureOk 9 cfg7S := by
  intro args ob V hs ho
  unfold cfg7S at hs
  split at hs
  · simp only [Option.some.injEq, Prod.mk.injEq] at hs
    obtain ⟨rfl, rfl⟩ := hs
    have h := ho _ (List.mem_cons_self ..)
    subst h
    have := config_fn 7
    rw [show cAnd 7 7 = 8 from by decide] at this
    exact ⟨rfl, rfl, this⟩
  · simp at hs
def namedS : Hx.Spec := fun args H => match args with
  | [.agg [.int .i64 a0, .int .i64 a1, .int .i64 a2, .int .i64 a3, .int .i64 a4, .int .i64 a5, .int .i64 a6, .int .i64 a7, .int .i64 a8], .slice h 0 l c] => match getH H h, nums[H.length]? with
    | some (.ints .u64 W 56), some n => some ([a0 = 1 ∧ a1 = 4 ∧ a2 = 8 ∧ a3 = 4 ∧ a4 = 4 ∧ a5 = 2 ∧ a6 = 6 ∧ a7 = 2 ∧ a8 = 2, l = W.length, c = W.length, (W.length : Int) = sizeV 1 4 8 4 2 6 2, 13 ≤ W.length, bdN W], slV (opL (nmV W)) n, H ++ [slE (opL (nmV W)) .i64 3])
    | _, _ => none
  | _ => none
theorem namedS_ok {args : List SV} {H : List HE} {ob : List Prop} {V : SV} {L : List HE} (hs : namedS args H = some (ob, V, L)) (ho : AllP ob) : Gives Try.prog 35 args H (Is V L) := by
  unfold namedS at hs
  split at hs
  case h_2 => simp at hs
  rename_i _ a0 a1 a2 a3 a4 a5 a6 a7 a8 h l c
  split at hs
  case h_2 => simp at hs
  rename_i _ _ W n hg hn
  have hn' := nums_get _ _ hn
  subst hn'
  simp only [Option.some.injEq, Prod.mk.injEq] at hs
  obtain ⟨rfl, rfl, rfl⟩ := hs
  obtain ⟨o0, o1, o2, o3, o4, o5⟩ := (⟨ho _ (by simp), ho _ (by simp), ho _ (by simp), ho _ (by simp), ho _ (by simp), ho _ (List.mem_of_getElem? (i := 5) rfl)⟩ : (a0 = 1 ∧ a1 = 4 ∧ a2 = 8 ∧ a3 = 4 ∧ a4 = 4 ∧ a5 = 2 ∧ a6 = 6 ∧ a7 = 2 ∧ a8 = 2) ∧ l = W.length ∧ c = W.length ∧ (W.length : Int) = sizeV 1 4 8 4 2 6 2 ∧ 13 ≤ W.length ∧ bdN W)
  obtain ⟨rfl, rfl, rfl, rfl, rfl, rfl, rfl, rfl, rfl⟩ := o0
  subst o1; subst o2
  have := frame1 (N := [slE (opL (nmV W)) .i64 3]) (H := H) (h0 := h) (ags := [.agg [.int .i64 1, .int .i64 4, .int .i64 8, .int .i64 4, .int .i64 4, .int .i64 2, .int .i64 6, .int .i64 2, .int .i64 2], .slice h 0 W.length W.length]) ⟨_, hTE⟩ (named_fn (W := W) o3 o4 o5) rfl rfl rfl hg (by cases opL (nmV W) <;> rfl)
  have e1 : (SO.ints .u64 W 56).ren (nm [h] H) = .ints .u64 W 56 := rfl
  have e3 : (slV (opL (nmV W)) 1).ren (nm [h] H) = slV (opL (nmV W)) H.length := by cases opL (nmV W) <;> rfl
  rw [e1, e3, set_get hg] at this
  simp only [List.map_cons, List.map_nil, ren_slE] at this
  exact this
def ctNs : Nat → Option Hx.Spec
  | 33 => some (pureS (placeS slotF))
  | 21 => some (hasS)
  | 27 => some (rmakeS)
  | 9 => some (pureS cfg7S)
  | 10 => some (pureS awS)
  | 35 => some (namedS)
  | _ => none
theorem ctNs_ok : ∀ f s args H ob V L, ctNs f = some s → s args H = some (ob, V, L) → AllP ob → Gives Try.prog f args H (Is V L) := by
  intro f s args H ob V L h hs ho
  unfold ctNs at h
  split at h
  · simp at h; subst h; exact pureS_ok ⟨_, hTE⟩ (placeS_ok (v := slotF) rslot_fn) hs ho
  · simp at h; subst h; exact hasS_ok hs ho
  · simp at h; subst h; exact rmakeS_ok hs ho
  · simp at h; subst h; exact pureS_ok ⟨_, hTE⟩ (cfg7S_ok) hs ho
  · simp at h; subst h; exact pureS_ok ⟨_, hTE⟩ (awS_ok) hs ho
  · simp at h; subst h; exact namedS_ok hs ho
  · simp at h
noncomputable def XNs : Tabs := tabs tr ft xt (fun _ => none) ctNs 0
theorem hXNs : TOk Try.prog (XNs) := ⟨hTE, hFT, ctNs_ok, hXT, fun t ks h => by simp [XNs, tabs] at h, mixed⟩
section
variable {ρ : Nat → Nat × Nat} {w : World} {z : List Int}
set_option maxHeartbeats 4000000 in
theorem nil1b : SS hXNs (At ρ w) (Is .tt [.obj (.winI .u64 z)]) ⟨[], [], Try.f8, Try.f8.ntmps, [.obj (.winI .u64 z)], contF Try.f8 17 [], [(3, .tt), (6, .nilslice), (8, .nilslice)], [.obj (.winI .u64 z)]⟩ := by
  have hX := hXNs
  refine sxb hX [.l] [] 100 rfl trivial ?_
  refine ss_sub hX (T' := [(3, .tt), (6, .nilslice), (8, .nilslice), (10, .int .i64 0)]) (H' := [.obj (.winI .u64 z)]) [0] rfl rfl rfl rfl clhN clhN clkN clkN ?_
  refine ss_loop hX (fun _ : Unit => [(3, .tt), (6, .nilslice), (8, .nilslice), (10, .int .i64 0)]) (fun _ => [.obj (.winI .u64 z)]) (fun _ => True) (fun _ => 0) () trivial ?_
  intro _ _ I _
  refine sx hX [] 4000 rfl (by (simp [-List.getD_eq_getElem?_getD, -List.length_eq_zero_iff, conjP])) ?_
  refine sx hX [.F] 4000 rfl (by (simp [-List.getD_eq_getElem?_getD, -List.length_eq_zero_iff, conjP, addOP])) ?_
  (refine ss_end hX [0] rfl rfl trivial rfl rfl rfl rfl ?tt ?hh ?ot ?ok; (case tt => exact clhN); (case hh => exact clhN); (case ot => exact clkN); (case ok => exact clkN))
set_option maxHeartbeats 4000000 in
theorem nil1a : SS hXNs (At ρ w) (Is .tt [.obj (.winI .u64 z)]) ⟨[], [], Try.f8, Try.f8.ntmps, [.obj (.winI .u64 z)], contF Try.f8 12 [], [(3, .tt), (6, .nilslice), (8, .nilslice)], [.obj (.winI .u64 z)]⟩ := by
  have hX := hXNs
  have h2 := nil1b (ρ := ρ) (w := w) (z := z)
  refine sxb hX [.l] [] 100 rfl trivial ?_
  refine ss_sub hX (T' := [(3, .tt), (6, .nilslice), (8, .nilslice), (9, .int .i64 0)]) (H' := [.obj (.winI .u64 z)]) [0] rfl rfl rfl rfl clhN clhN clkN clkN ?_
  refine ss_loop hX (fun _ : Unit => [(3, .tt), (6, .nilslice), (8, .nilslice), (9, .int .i64 0)]) (fun _ => [.obj (.winI .u64 z)]) (fun _ => True) (fun _ => 0) () trivial ?_
  intro _ _ I _
  refine sxb hX [.r 17] [] 4000 rfl (by (simp [-List.getD_eq_getElem?_getD, -List.length_eq_zero_iff, conjP])) ?_
  refine sxb hX [.r 17] [.F] 4000 rfl (by (simp [-List.getD_eq_getElem?_getD, -List.length_eq_zero_iff, conjP, addOP])) ?_
  (refine ss_sub hX (T' := [(3, .tt), (6, .nilslice), (8, .nilslice)]) (H' := [.obj (.winI .u64 z)]) [0] rfl rfl rfl rfl ?tt ?hh ?ot ?ok h2; (case tt => exact clhN); (case hh => exact clhN); (case ot => exact clkN); (case ok => exact clkN))
set_option maxHeartbeats 4000000 in
theorem nil0b : SS hXNs (At ρ w) (Is .tt []) ⟨[], [], Try.f8, Try.f8.ntmps, [], contF Try.f8 17 [], [(3, .tt), (6, .nilslice), (8, .nilslice)], []⟩ := by
  have hX := hXNs
  refine sxb hX [.l] [] 100 rfl trivial ?_
  refine ss_sub hX (T' := [(3, .tt), (6, .nilslice), (8, .nilslice), (10, .int .i64 0)]) (H' := []) [] rfl rfl rfl rfl clhN clhN clkN clkN ?_
  refine ss_loop hX (fun _ : Unit => [(3, .tt), (6, .nilslice), (8, .nilslice), (10, .int .i64 0)]) (fun _ => []) (fun _ => True) (fun _ => 0) () trivial ?_
  intro _ _ I _
  refine sx hX [] 4000 rfl (by (simp [-List.getD_eq_getElem?_getD, -List.length_eq_zero_iff, conjP])) ?_
  refine sx hX [.F] 4000 rfl (by (simp [-List.getD_eq_getElem?_getD, -List.length_eq_zero_iff, conjP, addOP])) ?_
  (refine ss_end hX [] rfl rfl trivial rfl rfl rfl rfl ?tt ?hh ?ot ?ok; (case tt => exact clhN); (case hh => exact clhN); (case ot => exact clkN); (case ok => exact clkN))
set_option maxHeartbeats 4000000 in
theorem nil0a : SS hXNs (At ρ w) (Is .tt []) ⟨[], [], Try.f8, Try.f8.ntmps, [], contF Try.f8 12 [], [(3, .tt), (6, .nilslice), (8, .nilslice)], []⟩ := by
  have hX := hXNs
  have h2 := nil0b (ρ := ρ) (w := w)
  refine sxb hX [.l] [] 100 rfl trivial ?_
  refine ss_sub hX (T' := [(3, .tt), (6, .nilslice), (8, .nilslice), (9, .int .i64 0)]) (H' := []) [] rfl rfl rfl rfl clhN clhN clkN clkN ?_
  refine ss_loop hX (fun _ : Unit => [(3, .tt), (6, .nilslice), (8, .nilslice), (9, .int .i64 0)]) (fun _ => []) (fun _ => True) (fun _ => 0) () trivial ?_
  intro _ _ I _
  refine sxb hX [.r 17] [] 4000 rfl (by (simp [-List.getD_eq_getElem?_getD, -List.length_eq_zero_iff, conjP])) ?_
  refine sxb hX [.r 17] [.F] 4000 rfl (by (simp [-List.getD_eq_getElem?_getD, -List.length_eq_zero_iff, conjP, addOP])) ?_
  (refine ss_sub hX (T' := [(3, .tt), (6, .nilslice), (8, .nilslice)]) (H' := []) [] rfl rfl rfl rfl ?tt ?hh ?ot ?ok h2; (case tt => exact clhN); (case hh => exact clhN); (case ot => exact clkN); (case ok => exact clkN))
variable {a x : List Int}
set_option maxHeartbeats 4000000 in
theorem all2 (ha : a.length ≤ 8) (hx : x.length ≤ 8) (hxa : ∀ i, i < a.length → hasL x (a.getD i 0) = true) : SS hXNs (At ρ w) (Is .tt [.obj (.winI .u64 z)]) ⟨[], [], Try.f8, Try.f8.ntmps, [.obj (.winI .u64 z)], contF Try.f8 17 [], [(3, .tt), (6, .sbuf 1 1 0 a.length), (8, .sbuf 2 1 0 x.length)], [.obj (.winI .u64 z), .obj (.buf .i64 a 1 3), .obj (.buf .i64 x 1 3)]⟩ := by
  have hX := hXNs
  refine sxb hX [.l] [] 100 rfl trivial ?_
  refine ss_sub hX (T' := [(3, .tt), (6, .sbuf 1 1 0 a.length), (8, .sbuf 2 1 0 x.length), (10, .int .i64 ((0 : Nat) : Int))]) (H' := [.obj (.winI .u64 z), .obj (.buf .i64 a 1 3), .obj (.buf .i64 x 1 3)]) [0, 1, 2] rfl rfl rfl rfl clhN clhN clkN clkN ?_
  refine ss_loop hX (fun i : Nat => [(3, .tt), (6, .sbuf 1 1 0 a.length), (8, .sbuf 2 1 0 x.length), (10, .int .i64 (i : Int))]) (fun _ => [.obj (.winI .u64 z), .obj (.buf .i64 a 1 3), .obj (.buf .i64 x 1 3)]) (fun i => i ≤ a.length) (fun i => a.length - i) 0 (Nat.zero_le _) ?_
  intro i hi I back
  have hi : i ≤ a.length := hi
  have hx9 : x.length < 1000000 := by omega
  by_cases hlt : i < a.length
  · have h1 : (i : Int) < (a.length : Int) := by omega
    have hh := hxa i hlt
    have bk := back (i + 1) hlt (by show a.length - (i + 1) < a.length - i; omega)
    have ewi : IntKind.i64.wrap ((i : Int) + 1) = ((i + 1 : Nat) : Int) := by rw [wi64 (by omega) (by omega)]; omega
    refine sx hX [] 4000 rfl (by (simp [-List.getD_eq_getElem?_getD, -List.length_eq_zero_iff, conjP])) ?_
    refine sx hX [.T] 4000 rfl (by (simp [-List.getD_eq_getElem?_getD, -List.length_eq_zero_iff, conjP, h1, hlt, hx9, cellOff, Int.toNat_natCast])) ?_
    refine sx hX [.F] 4000 rfl (by (simp [-List.getD_eq_getElem?_getD, -List.length_eq_zero_iff, conjP, addOP, hh, cellOff, Int.toNat_natCast])) ?_
    (refine bk _ _ _ (sub_of [0, 1, 2] rfl rfl rfl rfl ?tt ?hh ?ot ?ok); (case tt => (try simp only [ewi]); exact clhN); (case hh => (try simp only [ewi]); exact clhN); (case ot => exact clkN); (case ok => exact clkN))
  · have h1 : ¬ (i : Int) < (a.length : Int) := by omega
    refine sx hX [] 4000 rfl (by (simp [-List.getD_eq_getElem?_getD, -List.length_eq_zero_iff, conjP])) ?_
    refine sx hX [.F] 4000 rfl (by (simp [-List.getD_eq_getElem?_getD, -List.length_eq_zero_iff, conjP, addOP, h1])) ?_
    (refine ss_end hX [0] rfl rfl trivial rfl rfl rfl rfl ?tt ?hh ?ot ?ok; (case tt => exact clhN); (case hh => exact clhN); (case ot => exact clkN); (case ok => exact clkN))
set_option maxHeartbeats 4000000 in
theorem all1 (ha : a.length ≤ 8) (hx : x.length ≤ 8) (hxa : ∀ i, i < a.length → hasL x (a.getD i 0) = true) (hax : ∀ i, i < x.length → hasL a (x.getD i 0) = true) (hup : ∀ i, i + 1 < x.length → x.getD i 0 < x.getD (i + 1) 0) : SS hXNs (At ρ w) (Is .tt [.obj (.winI .u64 z)]) ⟨[], [], Try.f8, Try.f8.ntmps, [.obj (.winI .u64 z)], contF Try.f8 12 [], [(3, .tt), (6, .sbuf 1 1 0 a.length), (8, .sbuf 2 1 0 x.length)], [.obj (.winI .u64 z), .obj (.buf .i64 a 1 3), .obj (.buf .i64 x 1 3)]⟩ := by
  have hX := hXNs
  have h2 := all2 (ρ := ρ) (w := w) (z := z) ha hx hxa
  refine sxb hX [.l] [] 100 rfl trivial ?_
  refine ss_sub hX (T' := [(3, .tt), (6, .sbuf 1 1 0 a.length), (8, .sbuf 2 1 0 x.length), (9, .int .i64 ((0 : Nat) : Int))]) (H' := [.obj (.winI .u64 z), .obj (.buf .i64 a 1 3), .obj (.buf .i64 x 1 3)]) [0, 1, 2] rfl rfl rfl rfl clhN clhN clkN clkN ?_
  refine ss_loop hX (fun i : Nat => [(3, .tt), (6, .sbuf 1 1 0 a.length), (8, .sbuf 2 1 0 x.length), (9, .int .i64 (i : Int))]) (fun _ => [.obj (.winI .u64 z), .obj (.buf .i64 a 1 3), .obj (.buf .i64 x 1 3)]) (fun i => i ≤ x.length) (fun i => x.length - i) 0 (Nat.zero_le _) ?_
  intro i hi I back
  have hi : i ≤ x.length := hi
  have ha9 : a.length < 1000000 := by omega
  by_cases hlt : i < x.length
  · have h1 : (i : Int) < (x.length : Int) := by omega
    have hh := hax i hlt
    have bk := back (i + 1) hlt (by show x.length - (i + 1) < x.length - i; omega)
    have ewi : IntKind.i64.wrap ((i : Int) + 1) = ((i + 1 : Nat) : Int) := by rw [wi64 (by omega) (by omega)]; omega
    by_cases h0 : i = 0
    · subst h0
      refine sx hX [] 4000 rfl (by (simp [-List.getD_eq_getElem?_getD, -List.length_eq_zero_iff, conjP])) ?_
      refine sx hX [.T] 4000 rfl (by (simp [-List.getD_eq_getElem?_getD, -List.length_eq_zero_iff, conjP, addOP, hlt])) ?_
      refine sx hX [.K, .K, .F, .K, .F] 4000 rfl (by (simp [-List.getD_eq_getElem?_getD, -List.length_eq_zero_iff, conjP, hlt, hh, ha9, cellOff])) ?_
      (refine bk _ _ _ (sub_of [0, 1, 2] rfl rfl rfl rfl ?tt ?hh ?ot ?ok); (case tt => (try simp only [ewi]); exact clhN); (case hh => (try simp only [ewi]); exact clhN); (case ot => exact clkN); (case ok => exact clkN))
    · have hu := hup (i - 1) (by omega)
      rw [show i - 1 + 1 = i from by omega] at hu
      have hp : (0 : Int) < (i : Int) := by omega
      have ewm : IntKind.i64.wrap ((i : Int) - 1) = (i : Int) - 1 := wi64 (by omega) (by omega)
      have etm : ((i : Int) - 1).toNat = i - 1 := by omega
      have h5 : ¬ x.getD i 0 ≤ x.getD (i - 1) 0 := by omega
      have h6 : (0 : Int) ≤ (i : Int) - 1 := by omega
      have h7 : (i : Int) - 1 < (x.length : Int) := by omega
      have h8 : i - 1 < x.length := by omega
      refine sx hX [] 4000 rfl (by (simp [-List.getD_eq_getElem?_getD, -List.length_eq_zero_iff, conjP])) ?_
      refine sx hX [.T] 4000 rfl (by (simp [-List.getD_eq_getElem?_getD, -List.length_eq_zero_iff, conjP, addOP, h1])) ?_
      refine sx hX [.K, .K, .F, .K, .T] 4000 rfl (by (simp [-List.getD_eq_getElem?_getD, -List.length_eq_zero_iff, conjP, h1, hlt, hh, ha9, ewm, etm, h7, h8, cellOff, Int.toNat_natCast] <;> (first | omega | ((repeat' (refine And.intro ?_ ?_)) <;> (first | omega | exact decide_eq_false (by omega) | exact decide_eq_true (by omega)))))) ?_
      refine sx hX [.F] 4000 rfl (by (simp [-List.getD_eq_getElem?_getD, -List.length_eq_zero_iff, conjP, addOP, ewm, etm, h5, cellOff, Int.toNat_natCast])) ?_
      (refine bk _ _ _ (sub_of [0, 1, 2] rfl rfl rfl rfl ?tt ?hh ?ot ?ok); (case tt => (try simp only [ewi]); exact clhN); (case hh => (try simp only [ewi]); exact clhN); (case ot => exact clkN); (case ok => exact clkN))
  · have h1 : ¬ (i : Int) < (x.length : Int) := by omega
    refine sxb hX [.r 17] [] 4000 rfl (by (simp [-List.getD_eq_getElem?_getD, -List.length_eq_zero_iff, conjP])) ?_
    refine sxb hX [.r 17] [.F] 4000 rfl (by (simp [-List.getD_eq_getElem?_getD, -List.length_eq_zero_iff, conjP, addOP, h1])) ?_
    (refine ss_sub hXNs (T' := [(3, .tt), (6, .sbuf 1 1 0 a.length), (8, .sbuf 2 1 0 x.length)]) (H' := [.obj (.winI .u64 z), .obj (.buf .i64 a 1 3), .obj (.buf .i64 x 1 3)]) [0, 1, 2] rfl rfl rfl rfl ?tt ?hh ?ot ?ok ?jj; (case tt => exact clhN); (case hh => exact clhN); (case ot => exact clkN); (case ok => exact clkN); (case jj => exact h2))
theorem all0 (ha : a.length ≤ 8) (hx : x.length ≤ 8) (hxa : ∀ i, i < a.length → hasL x (a.getD i 0) = true) (hax : ∀ i, i < x.length → hasL a (x.getD i 0) = true) (hup : ∀ i, i + 1 < x.length → x.getD i 0 < x.getD (i + 1) 0) :
    SS hXNs (At ρ w) (Is .tt [.obj (.winI .u64 z)]) ⟨[], [], Try.f8, Try.f8.ntmps, [.obj (.winI .u64 z)], contF Try.f8 12 [], [(3, .tt), (6, slV (opL a) 1), (8, slV (opL x) 2)], [.obj (.winI .u64 z), slE (opL a) .i64 3, slE (opL x) .i64 3]⟩ := by
  cases a with
  | nil => cases x with
    | nil =>
      refine ss_sub hXNs (T' := [(3, .tt), (6, .nilslice), (8, .nilslice)]) (H' := [.obj (.winI .u64 z)]) [0] rfl rfl rfl rfl clhN clhN clkN clkN nil1a
    | cons y t => exact absurd (hax 0 (by simp)) (by simp [hasL])
  | cons y t => cases x with
    | nil => exact absurd (hxa 0 (by simp)) (by simp [hasL])
    | cons u v => exact all1 ha hx hxa hax hup
end
end Go.Proofs.Ytfdkaakllceebaa
