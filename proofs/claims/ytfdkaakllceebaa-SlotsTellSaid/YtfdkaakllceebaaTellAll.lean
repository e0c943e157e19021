/- SlotsTell: whole. -/
import Derived.Test.YtfdkaakllceebaaTellTwo
import Derived.Test.YtfdkaakllceebaaNamedAll
namespace Go.Proofs.Ytfdkaakllceebaa
open Go Go.Hx
set_option maxRecDepth 8000
section
variable {ρ : Nat → Nat × Nat} {w : World} {z x W : List Int} {a b : Int} {cap : Nat} {ad : Option Addr} {I : Act → World → Prop} {sh : Bool}
set_option maxHeartbeats 8000000 in
theorem tlay (hl : 13 ≤ W.length) (i : Nat) (hi : i < z.length) (hi8 : i < 8) (hz : 0 ≤ z.getD i 0 ∧ z.getD i 0 < 18446744073709551616)
    (bk : ∀ cs T H, Sub (FEnv Try.prog (XTl x).TE (hXTl x).te Try.f7 Try.f7.ntmps [.obj (.winI .u64 z)] (Is .tt [.obj (.winI .u64 z)]) ρ w) T H ([(1, .slice 0 0 z.length cap), (2, .bool sh), (3, .ptr 1 0), (7, .tt), (8, .ptr 2 0), (9, .slice 3 0 W.length W.length), (10, .int .i64 ((i + 1 : Nat) : Int))]) ([.obj (.winI .u64 z), .obj (.ints .i64 [a, b] 71), cfN, WO (wdN W z (i + 1))]) → SS (hXTl x) (At ρ w) (Is .tt [.obj (.winI .u64 z)]) ⟨cs, [], Try.f7, Try.f7.ntmps, [.obj (.winI .u64 z)], downLq (contF Try.f7 5 [I]), T, H⟩) :
    SS (hXTl x) (At ρ w) (Is .tt [.obj (.winI .u64 z)]) ⟨[], [], Try.f7, Try.f7.ntmps, [.obj (.winI .u64 z)], contF Try.f7 5 [I], [(1, .slice 0 0 z.length cap), (2, .bool sh), (3, .ptr 1 0), (7, .tt), (8, .ptr 2 0), (9, .slice 3 0 W.length W.length), (10, .int .i64 (i : Int))], [.obj (.winI .u64 z), .obj (.ints .i64 [a, b] 71), cfN, WO (wdN W z i)]⟩ := by
  have hX := hXTl x
  have hr := right12
  have h1 : (i : Int) < (z.length : Int) := by omega
  have h8 : (i : Int) < 8 := by omega
  have es : slotF 1 4 8 4 4 2 6 2 2 (i : Int) = 5 + (i : Int) := by rw [slot_at hi8]; omega
  have et : (5 + (i : Int)).toNat = 5 + i := by omega
  have hn : (wdN W z i).length = W.length := wdN_len i
  have h2 : 5 + (i : Int) < (W.length : Int) := by omega
  have h3 : (0 : Int) ≤ 5 + (i : Int) := by omega
  have h4 : 5 + i < W.length := by omega
  have ewi : IntKind.i64.wrap ((i : Int) + 1) = ((i + 1 : Nat) : Int) := by rw [wi64 (by omega) (by omega)]; omega
  have ew : wdN W z (i + 1) = (wdN W z i).set (5 + i) (z.getD i 0) := rfl
  dsimp only [cfN] at bk ⊢
  rw [ew] at bk
  refine sx hX [] 4000 rfl (by (simp [-List.getD_eq_getElem?_getD, -List.length_eq_zero_iff, conjP])) ?_
  refine sx hX [.T] 4000 rfl (by (simp [-List.getD_eq_getElem?_getD, -List.length_eq_zero_iff, conjP, addOP, h1])) ?_
  refine sx hX [.T] 4000 rfl (by (simp [-List.getD_eq_getElem?_getD, -List.length_eq_zero_iff, conjP, getH, HE.so, hr, h1, h8, es, et, hn, h2, h3, h4, Int.toNat_natCast] <;> (first | omega | ((repeat' (refine And.intro ?_ ?_)) <;> (first | omega | exact decide_eq_false (by omega) | exact decide_eq_true (by omega)))))) ?_
  (refine bk _ _ _ (sub_of [0, 1, 2, 3] rfl rfl rfl rfl ?tt ?hh ?ot ?ok); (case tt => (try simp only [ewi]); exact clhT); (case hh => (try simp only [es, et, Nat.add_zero, Int.toNat_natCast]); exact clhT); (case ot => exact clkN); (case ok => exact clkN))
set_option maxHeartbeats 8000000 in
theorem tend (hW : (W.length : Int) = sizeV 1 4 8 4 2 6 2) (hl : 13 ≤ W.length) (h0 : ∀ j, j < 8 → W.getD (5 + j) 0 = 0) (hz : ∀ j, 0 ≤ z.getD j 0 ∧ z.getD j 0 < 18446744073709551616) (i : Nat) (hi8 : i ≤ 8) (hi : i ≤ z.length) (hf : ¬ i < z.length ∨ i = 8) (hx : nmV (wdN W z i) = x) :
    SS (hXTl x) (At ρ w) (Is .tt [.obj (.winI .u64 z)]) ⟨[], [], Try.f7, Try.f7.ntmps, [.obj (.winI .u64 z)], contF Try.f7 5 [I], [(1, .slice 0 0 z.length cap), (2, .bool sh), (3, .ptr 1 0), (7, .tt), (8, .ptr 2 0), (9, .slice 3 0 W.length W.length), (10, .int .i64 (i : Int))], [.obj (.winI .u64 z), .obj (.ints .i64 [a, b] 71), cfN, WO (wdN W z i)]⟩ := by
  have hX := hXTl x
  have hn : (wdN W z i).length = W.length := wdN_len i
  have hb : bdN (wdN W z i) := fun j hj => by
    rw [wdN_get hl hj]; split
    · exact hz j
    · rw [h0 j hj]; omega
  have J := p8s (ρ := ρ) (w := w) (z := z) (cap := cap) (a := a) (b := b) (sh := sh) (W := wdN W z i) (by rw [hn]; exact hW) (by rw [hn]; exact hl) hb hx hz
  rw [hn] at J
  dsimp only [cfN] at J ⊢
  by_cases hlt : i < z.length
  · have h1 : (i : Int) < (z.length : Int) := by omega
    have h2 : ¬ (i : Int) < 8 := by omega
    refine sxb hX [.r 8] [] 4000 rfl (by (simp [-List.getD_eq_getElem?_getD, -List.length_eq_zero_iff, conjP])) ?_
    refine sxb hX [.r 8] [.T] 4000 rfl (by (simp [-List.getD_eq_getElem?_getD, -List.length_eq_zero_iff, conjP, addOP, h1])) ?_
    refine sxb hX [.r 8] [.F] 4000 rfl (by (simp [-List.getD_eq_getElem?_getD, -List.length_eq_zero_iff, conjP, addOP, h2])) ?_
    (refine ss_sub hX (T' := [(1, .slice 0 0 z.length cap), (2, .bool sh), (3, .ptr 1 0), (7, .tt), (8, .ptr 2 0), (9, .slice 3 0 W.length W.length)]) (H' := [.obj (.winI .u64 z), .obj (.ints .i64 [a, b] 71), cfN, WO (wdN W z i)]) [0, 1, 2, 3] rfl rfl rfl rfl ?tt ?hh ?ot ?ok J; (case tt => exact clhT); (case hh => exact clhT); (case ot => exact clkN); (case ok => exact clkN))
  · have h1 : ¬ (i : Int) < (z.length : Int) := by omega
    refine sxb hX [.r 8] [] 4000 rfl (by (simp [-List.getD_eq_getElem?_getD, -List.length_eq_zero_iff, conjP])) ?_
    refine sxb hX [.r 8] [.F] 4000 rfl (by (simp [-List.getD_eq_getElem?_getD, -List.length_eq_zero_iff, conjP, addOP, h1])) ?_
    (refine ss_sub hX (T' := [(1, .slice 0 0 z.length cap), (2, .bool sh), (3, .ptr 1 0), (7, .tt), (8, .ptr 2 0), (9, .slice 3 0 W.length W.length)]) (H' := [.obj (.winI .u64 z), .obj (.ints .i64 [a, b] 71), cfN, WO (wdN W z i)]) [0, 1, 2, 3] rfl rfl rfl rfl ?tt ?hh ?ot ?ok J; (case tt => exact clhT); (case hh => exact clhT); (case ot => exact clkN); (case ok => exact clkN))
end
/-- As many words as are laid. -/
theorem min_end {n i : Nat} (h8 : i ≤ 8) (hn : i ≤ n) (hf : ¬ (i < n ∧ i < 8)) : i = min n 8 := by omega
namespace slotsTell
set_option maxHeartbeats 8000000 in
theorem tell_fn (a b : Int) (sh : Bool) (z : List Int) (cap : Nat) (hb : ∀ j, 0 ≤ z.getD j 0 ∧ z.getD j 0 < 18446744073709551616) : Gives Try.prog 7 [.agg [.int .i64 a, .int .i64 b], .slice 0 0 z.length cap, .bool sh] [.obj (.winI .u64 z)] (Is .tt [.obj (.winI .u64 z)]) := by
  have hX := hXTl (nmV (wdN (mkA 1 4 8 4 4 2 6 2 2).W z (min z.length 8)))
  have hr := right12
  refine gives_x hX (fn := Try.f7) rfl rfl rfl rfl fun ρ w => ?_
  refine sxb hX [.l] [] 4000 rfl (by simp [conjP, hr]) ?_
  refine ss_sub hX (T' := [(1, .slice 0 0 z.length cap), (2, .bool sh), (3, .ptr 1 0), (7, .tt), (8, .ptr 2 0), (9, .slice 3 0 (mkA 1 4 8 4 4 2 6 2 2).W.length (mkA 1 4 8 4 4 2 6 2 2).W.length), (10, .int .i64 ((0 : Nat) : Int))]) (H' := [.obj (.winI .u64 z), .obj (.ints .i64 [a, b] 71), cfN, WO (wdN (mkA 1 4 8 4 4 2 6 2 2).W z 0)]) [0, 1, 2, 3] rfl rfl rfl rfl clhT clhT clkN clkN ?_
  refine ss_loop hX (fun i : Nat => [(1, .slice 0 0 z.length cap), (2, .bool sh), (3, .ptr 1 0), (7, .tt), (8, .ptr 2 0), (9, .slice 3 0 (mkA 1 4 8 4 4 2 6 2 2).W.length (mkA 1 4 8 4 4 2 6 2 2).W.length), (10, .int .i64 (i : Int))]) (fun i => [.obj (.winI .u64 z), .obj (.ints .i64 [a, b] 71), cfN, WO (wdN (mkA 1 4 8 4 4 2 6 2 2).W z i)]) (fun i => i ≤ 8 ∧ i ≤ z.length) (fun i => 8 - i) 0 ⟨Nat.zero_le _, Nat.zero_le _⟩ ?_
  rintro i ⟨hi8, hi⟩ I back
  refine sxb hX [.r 5] [] 100 rfl trivial ?_
  by_cases hlt : i < z.length ∧ i < 8
  · exact tlay mk_ge i hlt.1 hlt.2 (hb i) (fun cs T H hs => back (i + 1) ⟨hlt.2, hlt.1⟩ (by show 8 - (i + 1) < 8 - i; omega) cs T H hs)
  · exact tend mk_len mk_ge (fun j hj => mk_slots hj) hb i hi8 hi (by omega) (by rw [min_end hi8 hi hlt])
set_option maxHeartbeats 8000000 in
theorem tell_nil (a b : Int) (sh : Bool) (ad : Option Addr) : Gives Try.prog 7 [.agg [.int .i64 a, .int .i64 b], .raw (.slice ad 0 0), .bool sh] [] (Is .tt []) := by
  have hX := hXTl []
  have hr := right12
  have hnil := nm_nil mk_ge (fun j hj => mk_slots hj)
  have hb : bdN (mkA 1 4 8 4 4 2 6 2 2).W := fun j hj => by rw [mk_slots hj]; omega
  refine gives_x hX (fn := Try.f7) rfl rfl rfl rfl fun ρ w => ?_
  have J := p8n (ρ := ρ) (w := w) (ad := ad) (a := a) (b := b) (sh := sh) mk_len mk_ge hb hnil
  refine sxb hX [.l] [] 4000 rfl (by simp [conjP, hr]) ?_
  generalize (mkA 1 4 8 4 4 2 6 2 2).W = W at *
  refine ss_sub hX (T' := [(1, .raw (.slice ad 0 0)), (2, .bool sh), (3, .ptr 0 0), (7, .tt), (8, .ptr 1 0), (9, .slice 2 0 W.length W.length), (10, .int .i64 0)]) (H' := [.obj (.ints .i64 [a, b] 71), cfN, WO W]) [0, 1, 2] rfl rfl rfl rfl clhT clhT clkN clkN ?_
  refine ss_loop hX (fun _ : Unit => [(1, .raw (.slice ad 0 0)), (2, .bool sh), (3, .ptr 0 0), (7, .tt), (8, .ptr 1 0), (9, .slice 2 0 W.length W.length), (10, .int .i64 0)]) (fun _ => [.obj (.ints .i64 [a, b] 71), cfN, WO W]) (fun _ => True) (fun _ => 0) () trivial ?_
  intro _ _ I _
  dsimp only [cfN] at J ⊢
  refine sxb hX [.r 8] [] 4000 rfl (by (simp [-List.getD_eq_getElem?_getD, -List.length_eq_zero_iff, conjP])) ?_
  refine sxb hX [.r 8] [.F] 4000 rfl (by (simp [-List.getD_eq_getElem?_getD, -List.length_eq_zero_iff, conjP, addOP])) ?_
  (refine ss_sub hX (T' := [(1, .raw (.slice ad 0 0)), (2, .bool sh), (3, .ptr 0 0), (7, .tt), (8, .ptr 1 0), (9, .slice 2 0 W.length W.length)]) (H' := [.obj (.ints .i64 [a, b] 71), cfN, WO W]) [0, 1, 2] rfl rfl rfl rfl ?tt ?hh ?ot ?ok J; (case tt => exact clhT); (case hh => exact clhT); (case ot => exact clkN); (case ok => exact clkN))
theorem walk (l : List SV) (h : okK [some .i64, some .i64] l) (sh : Bool) (z : List Int) {n : Nat} (hz : z.length = n) (_ cap : Nat) (hw : ∀ m ∈ z, (Lit.int .u64 m).wf = true) (_ : n ≤ maxLen) : ∃ L, Gives Try.prog 7 [.agg l, .slice 0 0 n cap, .bool sh] [.obj (.winI .u64 z)] (Is .tt L) := by
  subst hz
  have hb : ∀ j, 0 ≤ z.getD j 0 ∧ z.getD j 0 < 18446744073709551616 := fun j => by
    rw [List.getD_eq_getElem?_getD]
    rcases Nat.lt_or_ge j z.length with q | q
    · rw [List.getElem?_eq_getElem q]
      exact wfU (hw _ (List.getElem_mem q))
    · rw [List.getElem?_eq_none q]; simp
  rcases l with _ | ⟨x, _ | ⟨y, _ | ⟨w, r⟩⟩⟩ <;> simp only [okK, and_false] at h
  obtain ⟨⟨n0, rfl, _⟩, ⟨n1, rfl, _⟩, _⟩ := h
  exact ⟨_, tell_fn n0 n1 sh z cap hb⟩
theorem walk_nil (ad : Option Addr) (l : List SV) (h : okK [some .i64, some .i64] l) (sh : Bool) : Gives Try.prog 7 [.agg l, .raw (.slice ad 0 0), .bool sh] [] (Is .tt []) := by
  rcases l with _ | ⟨x, _ | ⟨y, _ | ⟨w, r⟩⟩⟩ <;> simp only [okK, and_false] at h
  obtain ⟨⟨n0, rfl, _⟩, ⟨n1, rfl, _⟩, _⟩ := h
  exact tell_nil n0 n1 sh ad
end slotsTell
end Go.Proofs.Ytfdkaakllceebaa
