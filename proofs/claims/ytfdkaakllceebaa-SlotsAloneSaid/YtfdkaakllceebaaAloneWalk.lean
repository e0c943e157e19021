/- SlotsAlone's walk. -/
import Derived.Test.YtfdkaakllceebaaAloneLaw
namespace Go.Proofs.Ytfdkaakllceebaa
open Go Go.Hx
set_option maxRecDepth 8000


abbrev cfL (S : Int) : HE := .obj (.cells [.int .i64 1, .int .i64 4, .int .i64 S, .int .i64 4, .int .i64 4, .int .i64 2, .int .i64 6, .int .i64 2, .int .i64 2] 28)
abbrev tkL (S m a : Int) : HE := .obj (.cells [.int .i64 1, .int .i64 4, .int .i64 S, .int .i64 4, .int .i64 4, .int .i64 2, .int .i64 6, .int .i64 2, .int .i64 2, .int .i64 m, .int .i64 a, .int .i64 (-1)] 78)
def alT (b c S : Int) (k : Nat) (x : AS) : List (Nat × SV) := [(1, .int .i64 b), (2, .int .i64 c), (7, .tt), (8, .ptr 0 0), (9, .ptr 2 0), (11, .int .i64 x.fr), (12, .int .i64 (S - 1 - k))]
def alH (S : Int) (x : AS) : List HE := [cfL S, WO x.W, AOx 1 x.W x.st x.kd x.wd x.vl x.ch]
def ckT (fr m : Int) (i : Nat) : List (Nat × SV) := [(7, .tt), (8, .ptr 0 0), (9, .ptr 2 0), (11, .int .i64 fr), (13, .ptr 3 0), (14, .int .i64 m), (15, .int .i64 (i : Int))]
def ckH (S m : Int) (W : List Int) (i : Nat) (st kd wd vl : Int) (ch : Bool) : List HE := [cfL S, WO W, AOx 1 W st kd wd vl ch, tkL S m i]

set_option maxHeartbeats 8000000 in
theorem alone_fn (q b c : Int) : Gives Try.prog 5 [.int .i64 q, .int .i64 b, .int .i64 c] [] (Is .tt []) := by
  have hr := slots_right q
  have hS := cAnd7 q
  refine gives_x hXSl (fn := Try.f5) rfl rfl rfl rfl fun ρ w => ?_
  have e1 : IntKind.i64.wrap (cAnd 7 q - 1) = cAnd 7 q - 1 - ((0 : Nat) : Int) := by rw [wi64 (by omega) (by omega)]; omega
  refine sx hXSl [] 4000 rfl (by simp [conjP, hr]) ?_
  refine ss_sub hXSl (T' := alT b c (cAnd 7 q) 0 (alN b (cAnd 7 q) 0)) (H' := alH (cAnd 7 q) (alN b (cAnd 7 q) 0)) [0, 1, 2] rfl rfl rfl rfl ⟨by (repeat' (first | exact rfl | exact trivial | exact sim_refl _ | refine And.intro ?_ ?_)), by (repeat' (first | exact rfl | exact trivial | exact sim_refl _ | refine And.intro ?_ ?_)), by (repeat' (first | exact rfl | exact trivial | exact sim_refl _ | refine And.intro ?_ ?_)), by (repeat' (first | exact rfl | exact trivial | exact sim_refl _ | refine And.intro ?_ ?_)), by (repeat' (first | exact rfl | exact trivial | exact sim_refl _ | refine And.intro ?_ ?_)), by (repeat' (first | exact rfl | exact trivial | exact sim_refl _ | refine And.intro ?_ ?_)), ⟨rfl, e1⟩, trivial⟩ (by (repeat' (first | exact rfl | exact trivial | exact sim_refl _ | refine And.intro ?_ ?_))) (by (repeat' (first | exact rfl | exact trivial | exact sim_refl _ | refine And.intro ?_ ?_))) (by (repeat' (first | exact rfl | exact trivial | exact sim_refl _ | refine And.intro ?_ ?_))) ?_
  clear e1
  generalize cAnd 7 q = S at *
  refine ss_loop hXSl (fun k : Nat => alT b c S k (alN b S k)) (fun k => alH S (alN b S k)) (fun k => (k : Int) ≤ S) (fun k => S.toNat - k) 0 (by omega) ?_
  intro k hk I back
  have hI := al_inv hr (b := b) k hk
  have hl := hI.len
  have hst0 := hI.st0
  have hst1 := hI.st1
  by_cases hkS : (k : Int) < S
  · have ew : IntKind.i64.wrap (S - 1 - k - 1) = S - 1 - ((k + 1 : Nat) : Int) := by rw [wi64 (by omega) (by omega)]; omega
    have hsl : slotF 1 4 S 4 4 2 6 2 2 (S - 1 - k) = 5 + (S - 1 - k) := by simp only [slotF, slotV]; rw [if_pos ⟨by omega, by omega⟩]
    have hu : 0 ≤ IntKind.u64.wrap (S - 1 - k) := by rw [wu64 (by omega) (by omega)]; omega
    cases ho : occI b (S - 1 - k) with
    | true =>
      have ho' := ho
      unfold occI at ho'
      refine sxb hXSl [.l] [] 4000 rfl (by (simp [-List.getD_eq_getElem?_getD, -List.length_eq_zero_iff, conjP] <;> (first | omega | ((repeat' (refine And.intro ?_ ?_)) <;> (first | omega | exact decide_eq_false (by omega) | exact decide_eq_true (by omega)))))) ?_
      refine sxb hXSl [.l] [.T] 4000 rfl (by (simp [-List.getD_eq_getElem?_getD, -List.length_eq_zero_iff, conjP, hu] <;> (first | omega | ((repeat' (refine And.intro ?_ ?_)) <;> (first | omega | exact decide_eq_false (by omega) | exact decide_eq_true (by omega)))))) ?_
      refine sxb hXSl [.l] [.T] 4000 rfl (by (simp [-List.getD_eq_getElem?_getD, -List.length_eq_zero_iff, conjP, hr, hl, hsl, ho'] <;> (first | omega | ((repeat' (refine And.intro ?_ ?_)) <;> (first | omega | exact decide_eq_false (by omega) | exact decide_eq_true (by omega)))))) ?_
      (refine back (k + 1) (by omega) (by omega) _ _ _ (sub_of [0, 1, 2] rfl rfl rfl rfl ?ht ?hh (by (repeat' (first | exact rfl | exact trivial | exact sim_refl _ | refine And.intro ?_ ?_))) (by (repeat' (first | exact rfl | exact trivial | exact sim_refl _ | refine And.intro ?_ ?_)))); (case ht => rw [alN_yes ho]; exact ⟨by (repeat' (first | exact rfl | exact trivial | exact sim_refl _ | refine And.intro ?_ ?_)), by (repeat' (first | exact rfl | exact trivial | exact sim_refl _ | refine And.intro ?_ ?_)), by (repeat' (first | exact rfl | exact trivial | exact sim_refl _ | refine And.intro ?_ ?_)), by (repeat' (first | exact rfl | exact trivial | exact sim_refl _ | refine And.intro ?_ ?_)), by (repeat' (first | exact rfl | exact trivial | exact sim_refl _ | refine And.intro ?_ ?_)), by (repeat' (first | exact rfl | exact trivial | exact sim_refl _ | refine And.intro ?_ ?_)), ⟨rfl, ew⟩, trivial⟩); (case hh => rw [alN_yes ho]; simp only [hsl]; (repeat' (first | exact rfl | exact trivial | exact sim_refl _ | refine And.intro ?_ ?_))))
    | false =>
      have ho' := ho
      unfold occI at ho'
      refine sxb hXSl [.l] [] 4000 rfl (by (simp [-List.getD_eq_getElem?_getD, -List.length_eq_zero_iff, conjP] <;> (first | omega | ((repeat' (refine And.intro ?_ ?_)) <;> (first | omega | exact decide_eq_false (by omega) | exact decide_eq_true (by omega)))))) ?_
      refine sxb hXSl [.l] [.T] 4000 rfl (by (simp [-List.getD_eq_getElem?_getD, -List.length_eq_zero_iff, conjP, hu] <;> (first | omega | ((repeat' (refine And.intro ?_ ?_)) <;> (first | omega | exact decide_eq_false (by omega) | exact decide_eq_true (by omega)))))) ?_
      refine sxb hXSl [.l] [.F] 4000 rfl (by (simp [-List.getD_eq_getElem?_getD, -List.length_eq_zero_iff, conjP, addOP, ho'] <;> (first | omega | ((repeat' (refine And.intro ?_ ?_)) <;> (first | omega | exact decide_eq_false (by omega) | exact decide_eq_true (by omega)))))) ?_
      (refine back (k + 1) (by omega) (by omega) _ _ _ (sub_of [0, 1, 2] rfl rfl rfl rfl ?ht ?hh (by (repeat' (first | exact rfl | exact trivial | exact sim_refl _ | refine And.intro ?_ ?_))) (by (repeat' (first | exact rfl | exact trivial | exact sim_refl _ | refine And.intro ?_ ?_)))); (case ht => rw [alN_no ho]; exact ⟨by (repeat' (first | exact rfl | exact trivial | exact sim_refl _ | refine And.intro ?_ ?_)), by (repeat' (first | exact rfl | exact trivial | exact sim_refl _ | refine And.intro ?_ ?_)), by (repeat' (first | exact rfl | exact trivial | exact sim_refl _ | refine And.intro ?_ ?_)), by (repeat' (first | exact rfl | exact trivial | exact sim_refl _ | refine And.intro ?_ ?_)), by (repeat' (first | exact rfl | exact trivial | exact sim_refl _ | refine And.intro ?_ ?_)), by (repeat' (first | exact rfl | exact trivial | exact sim_refl _ | refine And.intro ?_ ?_)), ⟨rfl, ew⟩, trivial⟩); (case hh => rw [alN_no ho]; (repeat' (first | exact rfl | exact trivial | exact sim_refl _ | refine And.intro ?_ ?_))))
  · have h3 := and3 c
    have hocc := hI.occ
    have hfr := hI.fr
    have hk0 : S - (k : Int) = 0 := by omega
    rw [hk0] at hocc hfr
    refine sxb hXSl [.l] [] 4000 rfl (by (simp [-List.getD_eq_getElem?_getD, -List.length_eq_zero_iff, conjP] <;> (first | omega | ((repeat' (refine And.intro ?_ ?_)) <;> (first | omega | exact decide_eq_false (by omega) | exact decide_eq_true (by omega)))))) ?_
    refine sxb hXSl [.l] [.F] 4000 rfl (by (simp [-List.getD_eq_getElem?_getD, -List.length_eq_zero_iff, conjP, addOP] <;> (first | omega | ((repeat' (refine And.intro ?_ ?_)) <;> (first | omega | exact decide_eq_false (by omega) | exact decide_eq_true (by omega)))))) ?_
    refine sxb hXSl [.l] [.F] 4000 rfl (by (simp [-List.getD_eq_getElem?_getD, -List.length_eq_zero_iff, conjP, addOP, hr] <;> (first | omega | ((repeat' (refine And.intro ?_ ?_)) <;> (first | omega | exact decide_eq_false (by omega) | exact decide_eq_true (by omega)))))) ?_
    refine sxb hXSl [.l] [.F] 4000 rfl (by (simp [-List.getD_eq_getElem?_getD, -List.length_eq_zero_iff, conjP, addOP] <;> (first | omega | ((repeat' (refine And.intro ?_ ?_)) <;> (first | omega | exact decide_eq_false (by omega) | exact decide_eq_true (by omega)))))) ?_
    refine sxb hXSl [.l] [.F] 4000 rfl (by (simp [-List.getD_eq_getElem?_getD, -List.length_eq_zero_iff, conjP, hl] <;> (first | omega | ((repeat' (refine And.intro ?_ ?_)) <;> (first | omega | exact decide_eq_false (by omega) | exact decide_eq_true (by omega)))))) ?_
    generalize alN b S k = x at *
    obtain ⟨W, st, kd, wd, vl, ch, fr⟩ := x
    dsimp only at hl hst0 hst1 hocc hfr
    generalize ibits .and .i64 c 3 = m at *
    refine ss_sub hXSl (T' := ckT fr st 0) (H' := ckH S m W 0 st kd wd vl ch) [0, 1, 2, 5] rfl rfl rfl rfl (by (repeat' (first | exact rfl | exact trivial | exact sim_refl _ | refine And.intro ?_ ?_))) (by (repeat' (first | exact rfl | exact trivial | exact sim_refl _ | refine And.intro ?_ ?_))) (by (repeat' (first | exact rfl | exact trivial | exact sim_refl _ | refine And.intro ?_ ?_))) (by (repeat' (first | exact rfl | exact trivial | exact sim_refl _ | refine And.intro ?_ ?_))) ?_
    refine ss_loop hXSl (fun p : Nat × Int × Int × Int × Int × Bool => ckT fr st p.1) (fun p => ckH S m W p.1 p.2.1 p.2.2.1 p.2.2.2.1 p.2.2.2.2.1 p.2.2.2.2.2) (fun p => (p.1 : Int) < S ∧ p.2.1 = st + p.1 ∧ ∀ j : Int, 0 ≤ j → j < p.1 → occI b j = true) (fun p => S.toNat - p.1) (0, st, kd, wd, vl, ch) ⟨by simp only; omega, by simp, fun j h0 h1 => by simp only at h1; omega⟩ ?_
    rintro ⟨i, st', kd', wd', vl', ch'⟩ ⟨hi, hs', hoc⟩ I2 back2
    simp only at hi hs' hoc
    subst hs'
    dsimp only [ckH]
    have ewd : IntKind.i64.wrap (st + (i : Int) + 1 - st) = (i : Int) + 1 := by rw [wi64 (by omega) (by omega)]; omega
    have ewn : IntKind.i64.wrap ((i : Int) + 1) = ((i + 1 : Nat) : Int) := by rw [wi64 (by omega) (by omega)]; omega
    have hsl : slotF 1 4 S 4 4 2 6 2 2 i = 5 + i := by simp only [slotF, slotV]; rw [if_pos ⟨by omega, hi⟩]
    have ewi : IntKind.i64.wrap ((i : Int) + 1) = (i : Int) + 1 := wi64 (by omega) (by omega)
    have ewS : IntKind.i64.wrap S = S := wi64 (by omega) (by omega)
    have hi8 : (i : Int) < 8 := by omega
    cases ho : occI b i with
    | true =>
      have hw := (hocc i (by omega) hi).1 ho
      have hz : ¬ W.getD (5 + (i : Int)).toNat 0 = 0 := by omega
      have hsw : swW W (5 + (i : Int)) 0 (markV m 0) = W := by rw [swW, if_neg hz]
      by_cases hiS : (i : Int) + 1 = S
      · have hall : fr = -1 := by
          rcases hfr with ⟨q, _⟩ | ⟨q1, q2, q3, q4⟩
          · exact q
          · have : occI b fr = true := by
              rcases Int.lt_or_le fr i with g | g
              · exact hoc fr q1 g
              · have : fr = i := by omega
                rw [this]; exact ho
            rw [this] at q3; cases q3
        subst hall
        refine sx hXSl [] 4000 rfl (by (simp [-List.getD_eq_getElem?_getD, -List.length_eq_zero_iff, conjP] <;> (first | omega | ((repeat' (refine And.intro ?_ ?_)) <;> (first | omega | exact decide_eq_false (by omega) | exact decide_eq_true (by omega)))))) ?_
        refine sx hXSl [.T] 4000 rfl (by (simp [-List.getD_eq_getElem?_getD, -List.length_eq_zero_iff, conjP, addOP, hi8] <;> (first | omega | ((repeat' (refine And.intro ?_ ?_)) <;> (first | omega | exact decide_eq_false (by omega) | exact decide_eq_true (by omega)))))) ?_
        refine sx hXSl [.F] 4000 rfl (by (simp [-List.getD_eq_getElem?_getD, -List.length_eq_zero_iff, conjP, getH, HE.so, hr, hl, hsl, ewS, hiS] <;> (first | omega | ((repeat' (refine And.intro ?_ ?_)) <;> (first | omega | exact decide_eq_false (by omega) | exact decide_eq_true (by omega)))))) ?_
        refine sx hXSl [.F] 4000 rfl (by (simp [-List.getD_eq_getElem?_getD, -List.length_eq_zero_iff, conjP, addOP, hsl, hz] <;> (first | omega | ((repeat' (refine And.intro ?_ ?_)) <;> (first | omega | exact decide_eq_false (by omega) | exact decide_eq_true (by omega)))))) ?_
        refine sx hXSl [.T] 4000 rfl (by (simp [-List.getD_eq_getElem?_getD, -List.length_eq_zero_iff, conjP, addOP, ewS, hiS] <;> (first | omega | ((repeat' (refine And.intro ?_ ?_)) <;> (first | omega | exact decide_eq_false (by omega) | exact decide_eq_true (by omega)))))) ?_
        refine sx hXSl [.F] 4000 rfl (by (simp [-List.getD_eq_getElem?_getD, -List.length_eq_zero_iff, conjP, addOP] <;> (first | omega | ((repeat' (refine And.intro ?_ ?_)) <;> (first | omega | exact decide_eq_false (by omega) | exact decide_eq_true (by omega)))))) ?_
        refine sx hXSl [.K, .K, .F, .F, .K, .K, .F] 4000 rfl (by (simp [-List.getD_eq_getElem?_getD, -List.length_eq_zero_iff, conjP, getH, HE.so, hl, hsl, hsw] <;> (first | omega | ((repeat' (refine And.intro ?_ ?_)) <;> (first | omega | exact decide_eq_false (by omega) | exact decide_eq_true (by omega)))))) ?_
        refine sx hXSl [.F] 4000 rfl (by (simp [-List.getD_eq_getElem?_getD, -List.length_eq_zero_iff, conjP, addOP, ewd, hiS] <;> (first | omega | ((repeat' (refine And.intro ?_ ?_)) <;> (first | omega | exact decide_eq_false (by omega) | exact decide_eq_true (by omega)))))) ?_
        refine sx hXSl [.T] 4000 rfl (by (simp [-List.getD_eq_getElem?_getD, -List.length_eq_zero_iff, conjP, addOP] <;> (first | omega | ((repeat' (refine And.intro ?_ ?_)) <;> (first | omega | exact decide_eq_false (by omega) | exact decide_eq_true (by omega)))))) ?_
        (exact ss_end hXSl [] rfl rfl trivial rfl rfl rfl rfl (by (repeat' (first | exact rfl | exact trivial | exact sim_refl _ | refine And.intro ?_ ?_))) trivial (by (repeat' (first | exact rfl | exact trivial | exact sim_refl _ | refine And.intro ?_ ?_))) trivial)
      · refine sxb hXSl [.l] [] 4000 rfl (by (simp [-List.getD_eq_getElem?_getD, -List.length_eq_zero_iff, conjP] <;> (first | omega | ((repeat' (refine And.intro ?_ ?_)) <;> (first | omega | exact decide_eq_false (by omega) | exact decide_eq_true (by omega)))))) ?_
        refine sxb hXSl [.l] [.T] 4000 rfl (by (simp [-List.getD_eq_getElem?_getD, -List.length_eq_zero_iff, conjP, addOP, hi8] <;> (first | omega | ((repeat' (refine And.intro ?_ ?_)) <;> (first | omega | exact decide_eq_false (by omega) | exact decide_eq_true (by omega)))))) ?_
        refine sxb hXSl [.l] [.F] 4000 rfl (by (simp [-List.getD_eq_getElem?_getD, -List.length_eq_zero_iff, conjP, getH, HE.so, hr, hl, hsl, ewi] <;> (first | omega | ((repeat' (refine And.intro ?_ ?_)) <;> (first | omega | exact decide_eq_false (by omega) | exact decide_eq_true (by omega)))))) ?_
        refine sxb hXSl [.l] [.F] 4000 rfl (by (simp [-List.getD_eq_getElem?_getD, -List.length_eq_zero_iff, conjP, addOP, hsl, hz] <;> (first | omega | ((repeat' (refine And.intro ?_ ?_)) <;> (first | omega | exact decide_eq_false (by omega) | exact decide_eq_true (by omega)))))) ?_
        refine sxb hXSl [.l] [.F] 4000 rfl (by (simp [-List.getD_eq_getElem?_getD, -List.length_eq_zero_iff, conjP, addOP, ewi, hiS] <;> (first | omega | ((repeat' (refine And.intro ?_ ?_)) <;> (first | omega | exact decide_eq_false (by omega) | exact decide_eq_true (by omega)))))) ?_
        refine sxb hXSl [.l] [.T] 4000 rfl (by (simp [-List.getD_eq_getElem?_getD, -List.length_eq_zero_iff, conjP, addOP, ewi] <;> (first | omega | ((repeat' (refine And.intro ?_ ?_)) <;> (first | omega | exact decide_eq_false (by omega) | exact decide_eq_true (by omega)))))) ?_
        refine sxb hXSl [.l] [.T] 4000 rfl (by (simp [-List.getD_eq_getElem?_getD, -List.length_eq_zero_iff, conjP, addOP, ewi] <;> (first | omega | ((repeat' (refine And.intro ?_ ?_)) <;> (first | omega | exact decide_eq_false (by omega) | exact decide_eq_true (by omega)))))) ?_
        refine sxb hXSl [.l] [.F] 4000 rfl (by (simp [-List.getD_eq_getElem?_getD, -List.length_eq_zero_iff, conjP, addOP] <;> (first | omega | ((repeat' (refine And.intro ?_ ?_)) <;> (first | omega | exact decide_eq_false (by omega) | exact decide_eq_true (by omega)))))) ?_
        (simp only [hsl, hsw, if_neg hz, decide_eq_false hz]; refine back2 (i + 1, st + i + 1, 3, 5 + (i : Int), W.getD (5 + (i : Int)).toNat 0, false) ⟨by simp only; omega, by simp only; omega, fun j h0 h1 => ?hj⟩ (by simp only; omega) _ _ _ (sub_of [0, 1, 2, 3] rfl rfl rfl rfl ?ht ?hh (by (repeat' (first | exact rfl | exact trivial | exact sim_refl _ | refine And.intro ?_ ?_))) (by (repeat' (first | exact rfl | exact trivial | exact sim_refl _ | refine And.intro ?_ ?_)))); (case hj => (simp only at h1); (by_cases ej : j = i; (· rw [ej]; exact ho); (· exact hoc j h0 (by omega)))); (case ht => exact ⟨by (repeat' (first | exact rfl | exact trivial | exact sim_refl _ | refine And.intro ?_ ?_)), by (repeat' (first | exact rfl | exact trivial | exact sim_refl _ | refine And.intro ?_ ?_)), by (repeat' (first | exact rfl | exact trivial | exact sim_refl _ | refine And.intro ?_ ?_)), by (repeat' (first | exact rfl | exact trivial | exact sim_refl _ | refine And.intro ?_ ?_)), by (repeat' (first | exact rfl | exact trivial | exact sim_refl _ | refine And.intro ?_ ?_)), by (repeat' (first | exact rfl | exact trivial | exact sim_refl _ | refine And.intro ?_ ?_)), ⟨rfl, ewn⟩, trivial⟩); (case hh => repeat' (first | exact rfl | exact trivial | exact sim_refl _ | assumption | refine And.intro ?_ ?_)))
    | false =>
      have hz : W.getD (5 + (i : Int)).toNat 0 = 0 := (hocc i (by omega) hi).2 ho
      have hsw : swW W (5 + (i : Int)) 0 (markV m 0) = W.set (5 + (i : Int)).toNat (markV m 0) := by rw [swW, if_pos hz]
      have hall : fr = i := by
        rcases hfr with ⟨q1, q2⟩ | ⟨q1, q2, q3, q4⟩
        · have := q2 i (by omega) hi
          rw [ho] at this; cases this
        · rcases Int.lt_or_le fr i with g | g
          · have := hoc fr q1 g
            rw [this] at q3; cases q3
          · rcases Int.lt_or_le i fr with g2 | g2
            · have := q4 i (by omega) g2
              rw [ho] at this; cases this
            · omega
      subst hall
      have hlen2 : (5 + (i : Int)).toNat < W.length := by omega
      have hg2 : ((W.set (5 + (i : Int)).toNat (markV m 0)).set (5 + (i : Int)).toNat 0).getD (5 + (i : Int)).toNat 0 = 0 := by rw [set_getD, if_pos ⟨rfl, by simpa using hlen2⟩]
      have hib : (i : Int) < S ∧ S ≤ 8 := ⟨hi, by omega⟩
      refine sx hXSl [] 4000 rfl (by (simp [-List.getD_eq_getElem?_getD, -List.length_eq_zero_iff, conjP] <;> (first | omega | ((repeat' (refine And.intro ?_ ?_)) <;> (first | omega | exact decide_eq_false (by omega) | exact decide_eq_true (by omega)))))) ?_
      refine sx hXSl [.T] 4000 rfl (by (simp [-List.getD_eq_getElem?_getD, -List.length_eq_zero_iff, conjP, addOP, hi8] <;> (first | omega | ((repeat' (refine And.intro ?_ ?_)) <;> (first | omega | exact decide_eq_false (by omega) | exact decide_eq_true (by omega)))))) ?_
      refine sx hXSl [.F] 4000 rfl (by (simp [-List.getD_eq_getElem?_getD, -List.length_eq_zero_iff, conjP, getH, HE.so, hr, hl, hsl, ewi] <;> (first | omega | ((repeat' (refine And.intro ?_ ?_)) <;> (first | omega | exact decide_eq_false (by omega) | exact decide_eq_true (by omega)))))) ?_
      refine sx hXSl [.T] 4000 rfl (by (simp [-List.getD_eq_getElem?_getD, -List.length_eq_zero_iff, conjP, addOP, hsl, hz] <;> (first | omega | ((repeat' (refine And.intro ?_ ?_)) <;> (first | omega | exact decide_eq_false (by omega) | exact decide_eq_true (by omega)))))) ?_
      refine sx hXSl [.F] 4000 rfl (by (simp [-List.getD_eq_getElem?_getD, -List.length_eq_zero_iff, conjP, addOP] <;> (first | omega | ((repeat' (refine And.intro ?_ ?_)) <;> (first | omega | exact decide_eq_false (by omega) | exact decide_eq_true (by omega)))))) ?_
      refine sx hXSl [.K, .K, .F, .F, .K, .K, .F] 4000 rfl (by (simp [-List.getD_eq_getElem?_getD, -List.length_eq_zero_iff, conjP, getH, HE.so, hl, hsl, hsw] <;> (first | omega | ((repeat' (refine And.intro ?_ ?_)) <;> (first | omega | exact decide_eq_false (by omega) | exact decide_eq_true (by omega)))))) ?_
      refine sx hXSl [.F] 4000 rfl (by (simp [-List.getD_eq_getElem?_getD, -List.length_eq_zero_iff, conjP, addOP, ewd] <;> (first | omega | ((repeat' (refine And.intro ?_ ?_)) <;> (first | omega | exact decide_eq_false (by omega) | exact decide_eq_true (by omega)))))) ?_
      refine sx hXSl [.F] 4000 rfl (by (simp [-List.getD_eq_getElem?_getD, -List.length_eq_zero_iff, conjP, hr] <;> (first | omega | ((repeat' (refine And.intro ?_ ?_)) <;> (first | omega | exact decide_eq_false (by omega) | exact decide_eq_true (by omega)))))) ?_
      refine sx hXSl [.F] 4000 rfl (by (simp [-List.getD_eq_getElem?_getD, -List.length_eq_zero_iff, conjP, hl, hsl, hsw] <;> (first | omega | ((repeat' (refine And.intro ?_ ?_)) <;> (first | omega | exact decide_eq_false (by omega) | exact decide_eq_true (by omega)))))) ?_
      refine sx hXSl [.K, .K, .T] 4000 rfl (by (simp [-List.getD_eq_getElem?_getD, -List.length_eq_zero_iff, conjP, getH, HE.so, hr, hl, hsl, hsw, cellOff] <;> (first | omega | ((repeat' (refine And.intro ?_ ?_)) <;> (first | omega | exact decide_eq_false (by omega) | exact decide_eq_true (by omega)))))) ?_
      (exact ss_end hXSl [] rfl rfl trivial rfl rfl rfl rfl (by simp only [hsl, hsw, cellOff, hg2]; exact rfl) trivial (by (repeat' (first | exact rfl | exact trivial | exact sim_refl _ | refine And.intro ?_ ?_))) trivial)
end Go.Proofs.Ytfdkaakllceebaa
namespace Go.Proofs.Ytfdkaakllceebaa.slotsAlone
open Go Go.Hx
theorem walk (n0 : Int) (_ : (Lit.int .i64 n0).wf = true) (n1 : Int) (_ : (Lit.int .i64 n1).wf = true) (n2 : Int) (_ : (Lit.int .i64 n2).wf = true) : Gives Try.prog 5 [.int .i64 n0, .int .i64 n1, .int .i64 n2] [] (Is .tt []) := alone_fn n0 n1 n2
end Go.Proofs.Ytfdkaakllceebaa.slotsAlone
