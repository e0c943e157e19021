/- SlotsTell: the walk. -/
import Derived.Test.YtfdkaakllceebaaNamedRows
import Derived.Test.YtfdkaakllceebaaNamedLay
namespace Go.Proofs.Ytfdkaakllceebaa
open Go Go.Hx
set_option maxRecDepth 8000
theorem and32i (x : Int) : ibits .and .i64 x 4294967295 = x % 4294967296 := by
  have e : (BitVec.ofInt IntKind.i64.bits x &&& BitVec.ofInt IntKind.i64.bits 4294967295).toNat = (x % 18446744073709551616).toNat % 4294967296 := by
    rw [BitVec.toNat_and]
    have e1 : (BitVec.ofInt IntKind.i64.bits x).toNat = (x % 18446744073709551616).toNat := by
      simp only [BitVec.toNat_ofInt, IntKind.bits]
      rfl
    have e2 : (BitVec.ofInt IntKind.i64.bits 4294967295).toNat = 2 ^ 32 - 1 := by decide
    rw [e1, e2, Nat.and_two_pow_sub_one_eq_mod]
  show IntKind.i64.wrap _ = _
  rw [e, IntKind.wrap_i64]
  omega
def ctTl (x : List Int) : Nat → Option Hx.Spec
  | 33 => some (pureS (placeS slotF))
  | 27 => some (rmakeS)
  | 9 => some (pureS cfg7S)
  | 10 => some (pureS awS)
  | 25 => some (pureS markS)
  | 38 => some (pureS rmarkS)
  | 22 => some (pureS clientS)
  | 37 => some (pureS blkS)
  | 35 => some (named3P x)
  | 36 => some (rnamed3P x)
  | 34 => some (sqS)
  | _ => none
theorem ctTl_ok (x : List Int) : ∀ f s args H ob V L, ctTl x f = some s → s args H = some (ob, V, L) → AllP ob → Gives Try.prog f args H (Is V L) := by
  intro f s args H ob V L h hs ho
  unfold ctTl at h
  split at h
  · simp at h; subst h; exact pureS_ok ⟨_, hTE⟩ (placeS_ok (v := slotF) rslot_fn) hs ho
  · simp at h; subst h; exact rmakeS_ok hs ho
  · simp at h; subst h; exact pureS_ok ⟨_, hTE⟩ (cfg7S_ok) hs ho
  · simp at h; subst h; exact pureS_ok ⟨_, hTE⟩ (awS_ok) hs ho
  · simp at h; subst h; exact pureS_ok ⟨_, hTE⟩ (markS_ok) hs ho
  · simp at h; subst h; exact pureS_ok ⟨_, hTE⟩ (rmarkS_ok) hs ho
  · simp at h; subst h; exact pureS_ok ⟨_, hTE⟩ (clientS_ok) hs ho
  · simp at h; subst h; exact pureS_ok ⟨_, hTE⟩ (blkS_ok) hs ho
  · simp at h; subst h; exact named3P_ok hs ho
  · simp at h; subst h; exact rnamed3P_ok hs ho
  · simp at h; subst h; exact sqS_ok hs ho
  · simp at h
noncomputable def XTl (x : List Int) : Tabs := tabs tr ft xt (fun _ => none) (ctTl x) 0
theorem hXTl (x : List Int) : TOk Try.prog (XTl x) := ⟨hTE, hFT, (ctTl_ok x), hXT, fun t ks h => by simp [XTl, tabs] at h, mixed⟩
theorem mark_bd (a b : Int) : 0 ≤ markV a b ∧ markV a b < 18446744073709551616 := by
  have h1 := u32_bd (a + 1)
  have h2 := u32_bd b
  unfold markV
  omega
theorem mark_blk (a b : Int) : blkV (markV a b) = b % 4294967296 := by
  have h2 := u32_bd b
  unfold blkV markV
  have : u32 b = b % 4294967296 := rfl
  omega
section
variable {ρ : Nat → Nat × Nat} {w : World} {z x : List Int} {a b : Int} {cap : Nat} {ad : Option Addr}
set_option maxHeartbeats 8000000 in
theorem e19s : SS (hXTl x) (At ρ w) (Is .tt [.obj (.winI .u64 z)]) ⟨[], [], Try.f7, Try.f7.ntmps, [.obj (.winI .u64 z)], contF Try.f7 19 [], [(3, .ptr 1 0), (7, .tt), (11, .int .u64 (markV a b)), (12, .tt), (13, .nilslice)], [.obj (.winI .u64 z), .obj (.ints .i64 [a, b] 71)]⟩ := by
  have hX := hXTl x
  have h1 := mark_bd a b
  have h2 := mark_blk a b
  have h3 := and32i b
  have g0 : [a, b].getD 0 0 = a := rfl
  have g1 : [a, b].getD 1 0 = b := rfl
  refine sx hX [] 4000 rfl (by (simp [-List.getD_eq_getElem?_getD, -List.length_eq_zero_iff, conjP])) ?_
  refine sx hX [.K, .K, .T, .K, .K, .T] 4000 rfl (by (simp [-List.getD_eq_getElem?_getD, -List.length_eq_zero_iff, conjP, getH, HE.so, h1.1, h1.2, h2, h3, g0, g1])) ?_
  (refine ss_end hX [0] rfl rfl trivial rfl rfl rfl rfl ?tt ?hh ?ot ?ok; (case tt => exact clhT); (case hh => exact clhT); (case ot => exact clkN); (case ok => exact clkN))
set_option maxHeartbeats 8000000 in
theorem p13s (hz : ∀ j, 0 ≤ z.getD j 0 ∧ z.getD j 0 < 18446744073709551616) : SS (hXTl x) (At ρ w) (Is .tt [.obj (.winI .u64 z)]) ⟨[], [], Try.f7, Try.f7.ntmps, [.obj (.winI .u64 z)], contF Try.f7 13 [], [(1, .slice 0 0 z.length cap), (3, .ptr 1 0), (7, .tt), (11, .int .u64 (markV a b)), (12, .tt), (13, .nilslice)], [.obj (.winI .u64 z), .obj (.ints .i64 [a, b] 71)]⟩ := by
  have hX := hXTl x
  have J := e19s (ρ := ρ) (w := w) (z := z) (x := x) (a := a) (b := b)
  refine sxb hX [.l] [] 100 rfl trivial ?_
  refine ss_sub hX (T' := [(1, .slice 0 0 z.length cap), (3, .ptr 1 0), (7, .tt), (11, .int .u64 (markV a b)), (12, .tt), (13, .nilslice), (14, .int .i64 ((0 : Nat) : Int))]) (H' := [.obj (.winI .u64 z), .obj (.ints .i64 [a, b] 71)]) [0, 1] rfl rfl rfl rfl clhT clhT clkN clkN ?_
  refine ss_loop hX (fun i : Nat => [(1, .slice 0 0 z.length cap), (3, .ptr 1 0), (7, .tt), (11, .int .u64 (markV a b)), (12, .tt), (13, .nilslice), (14, .int .i64 (i : Int))]) (fun _ => [.obj (.winI .u64 z), .obj (.ints .i64 [a, b] 71)]) (fun i => i ≤ 8 ∧ i ≤ z.length) (fun i => 8 - i) 0 ⟨Nat.zero_le _, Nat.zero_le _⟩ ?_
  rintro i ⟨hi8, hi⟩ I back
  by_cases hlt : i < z.length
  · have h1 : (i : Int) < (z.length : Int) := by omega
    by_cases h8 : i < 8
    · have h2 : (i : Int) < 8 := by omega
      have bk := back (i + 1) ⟨h8, hlt⟩ (by show 8 - (i + 1) < 8 - i; omega)
      have hzi := hz i
      have ewi : IntKind.i64.wrap ((i : Int) + 1) = ((i + 1 : Nat) : Int) := by rw [wi64 (by omega) (by omega)]; omega
      have eb := and32 hzi.1 hzi.2
      have ef : (z.getD i 0).fdiv (2 ^ min 32 IntKind.u64.bits) = z.getD i 0 / 4294967296 := by
        rw [show min 32 IntKind.u64.bits = 32 from rfl, Int.fdiv_eq_ediv_of_nonneg _ (by omega)]; rfl
      have ew1 : IntKind.i64.wrap (z.getD i 0 / 4294967296) = z.getD i 0 / 4294967296 := wi64 (by omega) (by omega)
      have ew2 : IntKind.i64.wrap (z.getD i 0 / 4294967296 - 1) = z.getD i 0 / 4294967296 - 1 := wi64 (by omega) (by omega)
      have ewb : IntKind.i64.wrap (z.getD i 0 % 4294967296) = z.getD i 0 % 4294967296 := wi64 (by omega) (by omega)
      have ec : clientV (z.getD i 0) = z.getD i 0 / 4294967296 - 1 := rfl
      have ek : blkV (z.getD i 0) = z.getD i 0 % 4294967296 := rfl
      refine sx hX [] 4000 rfl (by (simp [-List.getD_eq_getElem?_getD, -List.length_eq_zero_iff, conjP])) ?_
      refine sx hX [.T] 4000 rfl (by (simp [-List.getD_eq_getElem?_getD, -List.length_eq_zero_iff, conjP, addOP, h1])) ?_
      refine sx hX [.T] 4000 rfl (by (simp [-List.getD_eq_getElem?_getD, -List.length_eq_zero_iff, conjP, h1, h2, hlt, hzi.1, hzi.2, Int.toNat_natCast])) ?_
      refine sx hX [.F] 4000 rfl (by (simp [-List.getD_eq_getElem?_getD, -List.length_eq_zero_iff, conjP, hzi.1, hzi.2, ef, ew1, ew2, ec, Int.toNat_natCast])) ?_
      refine sx hX [.F] 4000 rfl (by (simp [-List.getD_eq_getElem?_getD, -List.length_eq_zero_iff, conjP, addOP, eb, ewb, ek, Int.toNat_natCast])) ?_
      (refine bk _ _ _ (sub_of [0, 1] rfl rfl rfl rfl ?tt ?hh ?ot ?ok); (case tt => (try simp only [ewi]); exact clhT); (case hh => exact clhT); (case ot => exact clkN); (case ok => exact clkN))
    · have h2 : ¬ (i : Int) < 8 := by omega
      refine sxb hX [.r 19] [] 4000 rfl (by (simp [-List.getD_eq_getElem?_getD, -List.length_eq_zero_iff, conjP])) ?_
      refine sxb hX [.r 19] [.T] 4000 rfl (by (simp [-List.getD_eq_getElem?_getD, -List.length_eq_zero_iff, conjP, addOP, h1])) ?_
      refine sxb hX [.r 19] [.F] 4000 rfl (by (simp [-List.getD_eq_getElem?_getD, -List.length_eq_zero_iff, conjP, addOP, h2])) ?_
      (refine ss_sub hX (T' := [(3, .ptr 1 0), (7, .tt), (11, .int .u64 (markV a b)), (12, .tt), (13, .nilslice)]) (H' := [.obj (.winI .u64 z), .obj (.ints .i64 [a, b] 71)]) [0, 1] rfl rfl rfl rfl ?tt ?hh ?ot ?ok J; (case tt => exact clhT); (case hh => exact clhT); (case ot => exact clkN); (case ok => exact clkN))
  · have h1 : ¬ (i : Int) < (z.length : Int) := by omega
    refine sxb hX [.r 19] [] 4000 rfl (by (simp [-List.getD_eq_getElem?_getD, -List.length_eq_zero_iff, conjP])) ?_
    refine sxb hX [.r 19] [.F] 4000 rfl (by (simp [-List.getD_eq_getElem?_getD, -List.length_eq_zero_iff, conjP, addOP, h1])) ?_
    (refine ss_sub hX (T' := [(3, .ptr 1 0), (7, .tt), (11, .int .u64 (markV a b)), (12, .tt), (13, .nilslice)]) (H' := [.obj (.winI .u64 z), .obj (.ints .i64 [a, b] 71)]) [0, 1] rfl rfl rfl rfl ?tt ?hh ?ot ?ok J; (case tt => exact clhT); (case hh => exact clhT); (case ot => exact clkN); (case ok => exact clkN))
set_option maxHeartbeats 8000000 in
theorem e19n : SS (hXTl x) (At ρ w) (Is .tt []) ⟨[], [], Try.f7, Try.f7.ntmps, [], contF Try.f7 19 [], [(3, .ptr 0 0), (7, .tt), (11, .int .u64 (markV a b)), (12, .tt), (13, .nilslice)], [.obj (.ints .i64 [a, b] 71)]⟩ := by
  have hX := hXTl x
  have h1 := mark_bd a b
  have h2 := mark_blk a b
  have h3 := and32i b
  have g0 : [a, b].getD 0 0 = a := rfl
  have g1 : [a, b].getD 1 0 = b := rfl
  refine sx hX [] 4000 rfl (by (simp [-List.getD_eq_getElem?_getD, -List.length_eq_zero_iff, conjP])) ?_
  refine sx hX [.K, .K, .T, .K, .K, .T] 4000 rfl (by (simp [-List.getD_eq_getElem?_getD, -List.length_eq_zero_iff, conjP, getH, HE.so, h1.1, h1.2, h2, h3, g0, g1])) ?_
  (refine ss_end hX [] rfl rfl trivial rfl rfl rfl rfl ?tt ?hh ?ot ?ok; (case tt => exact clhT); (case hh => exact clhT); (case ot => exact clkN); (case ok => exact clkN))
set_option maxHeartbeats 8000000 in
theorem p13n : SS (hXTl x) (At ρ w) (Is .tt []) ⟨[], [], Try.f7, Try.f7.ntmps, [], contF Try.f7 13 [], [(1, .raw (.slice ad 0 0)), (3, .ptr 0 0), (7, .tt), (11, .int .u64 (markV a b)), (12, .tt), (13, .nilslice)], [.obj (.ints .i64 [a, b] 71)]⟩ := by
  have hX := hXTl x
  have J := e19n (ρ := ρ) (w := w) (x := x) (a := a) (b := b)
  refine sxb hX [.l] [] 100 rfl trivial ?_
  refine ss_sub hX (T' := [(1, .raw (.slice ad 0 0)), (3, .ptr 0 0), (7, .tt), (11, .int .u64 (markV a b)), (12, .tt), (13, .nilslice), (14, .int .i64 0)]) (H' := [.obj (.ints .i64 [a, b] 71)]) [0] rfl rfl rfl rfl clhT clhT clkN clkN ?_
  refine ss_loop hX (fun _ : Unit => [(1, .raw (.slice ad 0 0)), (3, .ptr 0 0), (7, .tt), (11, .int .u64 (markV a b)), (12, .tt), (13, .nilslice), (14, .int .i64 0)]) (fun _ => [.obj (.ints .i64 [a, b] 71)]) (fun _ => True) (fun _ => 0) () trivial ?_
  intro _ _ I _
  refine sxb hX [.r 19] [] 4000 rfl (by (simp [-List.getD_eq_getElem?_getD, -List.length_eq_zero_iff, conjP])) ?_
  refine sxb hX [.r 19] [.F] 4000 rfl (by (simp [-List.getD_eq_getElem?_getD, -List.length_eq_zero_iff, conjP, addOP])) ?_
  (refine ss_sub hX (T' := [(3, .ptr 0 0), (7, .tt), (11, .int .u64 (markV a b)), (12, .tt), (13, .nilslice)]) (H' := [.obj (.ints .i64 [a, b] 71)]) [0] rfl rfl rfl rfl ?tt ?hh ?ot ?ok J; (case tt => exact clhT); (case hh => exact clhT); (case ot => exact clkN); (case ok => exact clkN))
end
end Go.Proofs.Ytfdkaakllceebaa
