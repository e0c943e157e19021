/- SlotsNamed: whole. -/
import Derived.Test.YtfdkaakllceebaaNamedLay
namespace Go.Proofs.Ytfdkaakllceebaa
open Go Go.Hx
set_option maxRecDepth 8000
section
variable {ρ : Nat → Nat × Nat} {w : World} {z W : List Int} {cap : Nat} {I : Act → World → Prop}
set_option maxHeartbeats 8000000 in
theorem lay2 (hW : (W.length : Int) = sizeV 1 4 8 4 2 6 2) (hl : 13 ≤ W.length) (h0 : ∀ j, j < 8 → W.getD (5 + j) 0 = 0) (hz : ∀ j, 0 ≤ z.getD j 0 ∧ z.getD j 0 < 18446744073709551616) (i : Nat) (hi8 : i ≤ 8) (hi : i ≤ z.length) (hf : ¬ i < z.length ∨ i = 8) :
    SS hXNs (At ρ w) (Is .tt [.obj (.winI .u64 z)]) ⟨[], [], Try.f8, Try.f8.ntmps, [.obj (.winI .u64 z)], contF Try.f8 6 [I], slT W z cap i, slH W z i⟩ := by
  have hX := hXNs
  have hn : (wdN W z i).length = W.length := wdN_len i
  have hsz : ((wdN W z i).length : Int) = sizeV 1 4 8 4 2 6 2 := by rw [hn]; exact hW
  have hb : bdN (wdN W z i) := fun j hj => by
    rw [wdN_get hl hj]; split
    · exact hz j
    · rw [h0 j hj]; omega
  have hJ : SS hXNs (At ρ w) (Is .tt [.obj (.winI .u64 z)]) ⟨[], [], Try.f8, Try.f8.ntmps, [.obj (.winI .u64 z)], contF Try.f8 12 [], [(3, .tt), (6, slV (opL (alN z i)) 1), (8, slV (opL (nmV (wdN W z i))) 2)], [.obj (.winI .u64 z), slE (opL (alN z i)) .i64 3, slE (opL (nmV (wdN W z i))) .i64 3]⟩ := all0 (by have := alN_len (z := z) i; omega) nmV_len (fun k hk => has_named hl h0 hi8 hk) (fun k hk => has_all hl h0 hi8 hk) (fun k hk => nmV_up hk)
  dsimp only [slT, slH, cfN]
  by_cases hlt : i < z.length
  · have h8 : i = 8 := by omega
    have h1 : (i : Int) < (z.length : Int) := by omega
    have h2 : ¬ (i : Int) < 8 := by omega
    refine sxb hX [.r 12] [] 4000 rfl (by (simp [-List.getD_eq_getElem?_getD, -List.length_eq_zero_iff, conjP])) ?_
    refine sxb hX [.r 12] [.T] 4000 rfl (by (simp [-List.getD_eq_getElem?_getD, -List.length_eq_zero_iff, conjP, addOP, h1])) ?_
    refine sxb hX [.r 12] [.F] 4000 rfl (by (simp [-List.getD_eq_getElem?_getD, -List.length_eq_zero_iff, conjP, hn, hl, hW, hb, h2])) ?_
    (refine ss_sub hX (T' := [(3, .tt), (6, slV (opL (alN z i)) 1), (8, slV (opL (nmV (wdN W z i))) 2)]) (H' := [.obj (.winI .u64 z), slE (opL (alN z i)) .i64 3, slE (opL (nmV (wdN W z i))) .i64 3]) [0, 3, 4] rfl rfl rfl rfl ?tt ?hh ?ot ?ok hJ; (case tt => exact clhT); (case hh => exact clhT); (case ot => exact clkN); (case ok => exact clkN))
  · have h1 : ¬ (i : Int) < (z.length : Int) := by omega
    refine sxb hX [.r 12] [] 4000 rfl (by (simp [-List.getD_eq_getElem?_getD, -List.length_eq_zero_iff, conjP])) ?_
    refine sxb hX [.r 12] [.F] 4000 rfl (by (simp [-List.getD_eq_getElem?_getD, -List.length_eq_zero_iff, conjP, hn, hl, hW, hb, h1])) ?_
    (refine ss_sub hX (T' := [(3, .tt), (6, slV (opL (alN z i)) 1), (8, slV (opL (nmV (wdN W z i))) 2)]) (H' := [.obj (.winI .u64 z), slE (opL (alN z i)) .i64 3, slE (opL (nmV (wdN W z i))) .i64 3]) [0, 3, 4] rfl rfl rfl rfl ?tt ?hh ?ot ?ok hJ; (case tt => exact clhT); (case hh => exact clhT); (case ot => exact clkN); (case ok => exact clkN))
end
theorem nm_nil {W : List Int} (hl : 13 ≤ W.length) (h0 : ∀ j, j < 8 → W.getD (5 + j) 0 = 0) : nmV W = [] := by
  apply List.eq_nil_iff_forall_not_mem.2
  intro x hx
  have := (named_mem (z := []) (n := 0) hl h0 (Nat.zero_le _)).1 hx
  cases this
namespace slotsNamed
set_option maxHeartbeats 8000000 in
theorem walk (z : List Int) {l : Nat} (hz : z.length = l) (_ cap : Nat) (hw : ∀ n ∈ z, (Lit.int .u64 n).wf = true) (_ : l ≤ maxLen) : ∃ L, Gives Try.prog 8 [.slice 0 0 l cap] [.obj (.winI .u64 z)] (Is .tt L) := by
  subst hz
  refine ⟨[.obj (.winI .u64 z)], ?_⟩
  have hX := hXNs
  have hr := right12
  have hb : ∀ j, 0 ≤ z.getD j 0 ∧ z.getD j 0 < 18446744073709551616 := fun j => by
    rw [List.getD_eq_getElem?_getD]
    rcases Nat.lt_or_ge j z.length with q | q
    · rw [List.getElem?_eq_getElem q]
      exact wfU (hw _ (List.getElem_mem q))
    · rw [List.getElem?_eq_none q]; simp
  refine gives_x hX (fn := Try.f8) rfl rfl rfl rfl fun ρ w => ?_
  refine sxb hX [.l] [] 4000 rfl (by simp [conjP, hr]) ?_
  refine ss_sub hX (T' := slT (mkA 1 4 8 4 4 2 6 2 2).W z cap 0) (H' := slH (mkA 1 4 8 4 4 2 6 2 2).W z 0) [0, 1, 2, 99] rfl rfl rfl rfl clhT clhT clkN clkN ?_
  refine ss_loop hX (slT (mkA 1 4 8 4 4 2 6 2 2).W z cap) (slH (mkA 1 4 8 4 4 2 6 2 2).W z) (fun i => i ≤ 8 ∧ i ≤ z.length) (fun i => 8 - i) 0 ⟨Nat.zero_le _, Nat.zero_le _⟩ ?_
  rintro i ⟨hi8, hi⟩ I back
  refine sxb hX [.r 6] [] 100 rfl trivial ?_
  by_cases hlt : i < z.length ∧ i < 8
  · exact lay1 mk_ge i hlt.1 hlt.2 (hb i) (fun cs T H hs => back (i + 1) ⟨hlt.2, hlt.1⟩ (by show 8 - (i + 1) < 8 - i; omega) cs T H hs)
  · exact lay2 mk_len mk_ge (fun j hj => mk_slots hj) hb i hi8 hi (by omega)
set_option maxHeartbeats 8000000 in
theorem walk_nil (a : Option Addr) : Gives Try.prog 8 [.raw (.slice a 0 0)] [] (Is .tt []) := by
  have hX := hXNs
  have hr := right12
  have hnil := nm_nil mk_ge (fun j hj => mk_slots hj)
  have hW := mk_len
  have hl := mk_ge
  have hb : bdN (mkA 1 4 8 4 4 2 6 2 2).W := fun j hj => by rw [mk_slots hj]; omega
  refine gives_x hX (fn := Try.f8) rfl rfl rfl rfl fun ρ w => ?_
  have hJ := nil0a (ρ := ρ) (w := w)
  refine sxb hX [.l] [] 4000 rfl (by simp [conjP, hr]) ?_
  generalize (mkA 1 4 8 4 4 2 6 2 2).W = W at *
  refine ss_sub hX (T' := [(0, .raw (.slice a 0 0)), (3, .tt), (4, .ptr 0 0), (5, .slice 1 0 W.length W.length), (6, .nilslice), (7, .int .i64 0)]) (H' := [cfN, WO W]) [0, 1] rfl rfl rfl rfl clhT clhT clkN clkN ?_
  refine ss_loop hX (fun _ : Unit => [(0, .raw (.slice a 0 0)), (3, .tt), (4, .ptr 0 0), (5, .slice 1 0 W.length W.length), (6, .nilslice), (7, .int .i64 0)]) (fun _ => [cfN, WO W]) (fun _ => True) (fun _ => 0) () trivial ?_
  intro _ _ I _
  dsimp only [cfN]
  refine sxb hX [.r 12] [] 4000 rfl (by (simp [-List.getD_eq_getElem?_getD, -List.length_eq_zero_iff, conjP])) ?_
  refine sxb hX [.r 12] [.F] 4000 rfl (by (simp [-List.getD_eq_getElem?_getD, -List.length_eq_zero_iff, conjP, hl, hW, hb])) ?_
  (refine ss_sub hX (T' := [(3, .tt), (6, .nilslice), (8, .nilslice)]) (H' := []) [] rfl rfl rfl rfl ?tt ?hh ?ot ?ok hJ; (case tt => rw [hnil]; exact clhT); (case hh => exact clhT); (case ot => exact clkN); (case ok => exact clkN))
end slotsNamed
end Go.Proofs.Ytfdkaakllceebaa
