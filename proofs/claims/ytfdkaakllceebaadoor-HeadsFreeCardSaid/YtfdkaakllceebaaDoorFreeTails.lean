/- HeadsFree: what is free is what the two lists have, rising, each once. -/
import Derived.Test.YtfdkaakllceebaaDoorFreeTab
import Derived.Test.YtfdkaakllceebaaDoorLaidTab
import Derived.Test.YtfdkaakllceebaaDoorMadeLaw
namespace Go.Proofs.YtfdkaakllceebaaDoor
open Go Go.Hx
set_option maxRecDepth 8000
def frS2 (h0 : Nat) (rA rB : HR) : Hx.Spec := fun args H => match args with
  | [x, .slice h 0 n m] => match Nat.beq h h0 with
    | true => frS rA [x, .slice h 0 n m] H
    | false => frS rB [x, .slice h 0 n m] H
  | _ => none
theorem frS2_ok {h0 : Nat} {rA rB : HR} {args : List SV} {H : List HE} {ob : List Prop} {V : SV} {L : List HE} (hs : frS2 h0 rA rB args H = some (ob, V, L)) (ho : AllP ob) : Gives Tryd.prog 21 args H (Is V L) := by
  unfold frS2 at hs
  split at hs
  · split at hs
    · exact frS_ok hs ho
    · exact frS_ok hs ho
  · simp at hs
def ctHh (Wl : List Int) (r0 r1 rF rM : HR) (h0 : Nat) : Nat → Option Hx.Spec
  | 8 => some (pureS awHS)
  | 9 => some (pureS cfgHS)
  | 10 => some (laS Wl)
  | 11 => some (lsS2 r0 r1)
  | 21 => some (frS2 h0 rF rM)
  | 22 => some (rmakeS)
  | 14 => some (hasS)
  | 12 => some (topS)
  | _ => none
theorem ctHh_ok (Wl : List Int) (r0 r1 rF rM : HR) (h0 : Nat) : ∀ f s args H ob V L, ctHh Wl r0 r1 rF rM h0 f = some s → s args H = some (ob, V, L) → AllP ob → Gives Tryd.prog f args H (Is V L) := by
  intro f s args H ob V L h hs ho
  unfold ctHh at h
  split at h
  · simp at h; subst h; exact pureS_ok ⟨_, hTE⟩ (awHS_ok) hs ho
  · simp at h; subst h; exact pureS_ok ⟨_, hTE⟩ (cfgHS_ok) hs ho
  · simp at h; subst h; exact laS_ok hs ho
  · simp at h; subst h; exact lsS2_ok hs ho
  · simp at h; subst h; exact frS2_ok hs ho
  · simp at h; subst h; exact rmakeS_ok hs ho
  · simp at h; subst h; exact hasS_ok hs ho
  · simp at h; subst h; exact topS_ok hs ho
  · simp at h
noncomputable def XHh (Wl : List Int) (r0 r1 rF rM : HR) (h0 : Nat) : Tabs := tabs tr ft xt (fun _ => none) (ctHh Wl r0 r1 rF rM h0) 0
theorem hXHh (Wl : List Int) (r0 r1 rF rM : HR) (h0 : Nat) : TOk Tryd.prog (XHh Wl r0 r1 rF rM h0) := ⟨hTE, hFT, (ctHh_ok Wl r0 r1 rF rM h0), hXT, fun t ks h => by simp [XHh, tabs] at h, mixed⟩
theorem wr0 : IntKind.i64.wrap 0 = 0 := by decide
theorem hasL_nil2 (x : Int) : hasL [] x = false := rfl

def fT_nn : List (Nat × SV) := [(5, .tt), (8, .nilslice), (9, .niliface), (10, .nilslice), (11, .niliface), (12, .nilslice), (13, .niliface)]
def fH_nn (n : Nat) (o : Nat → SetP) : List HE := [stO n o, pinE RTV]
set_option maxHeartbeats 16000000 in
theorem ft_nn (n : Nat) (o : Nat → SetP) {Wl : List Int} {rM : HR} {h0 : Nat} {ρ : Nat → Nat × Nat} {w : World} :
    SS (hXHh Wl (.ok none) (.ok none) (.ok none) rM h0) (At ρ w) (Is .tt [stO n o, pinE RTV]) ⟨[], [], Tryd.f6, Tryd.f6.ntmps, [stO n o, pinE RTV], contF Tryd.f6 15 [], fT_nn, fH_nn n o⟩ := by
  have hX := hXHh Wl (.ok none) (.ok none) (.ok none) rM h0
  refine sxb hX [.l] [.T, .F, .F, .F] 4000 rfl (by simp [conjP, wr0]) ?_
  refine ss_sub hX (T' := [(5, .tt), (12, .nilslice), (18, .int .i64 0)]) (H' := [stO n o, pinE RTV]) [0, 1] rfl rfl rfl rfl (by (repeat' (first | exact rfl | exact trivial | exact sim_refl _ | refine And.intro ?_ ?_))) (by (repeat' (first | exact rfl | exact trivial | exact sim_refl _ | refine And.intro ?_ ?_))) (by (repeat' (first | exact rfl | exact trivial | exact sim_refl _ | refine And.intro ?_ ?_))) (by (repeat' (first | exact rfl | exact trivial | exact sim_refl _ | refine And.intro ?_ ?_))) ?_
  refine ss_loop hX (fun _ : Unit => [(5, .tt), (12, .nilslice), (18, .int .i64 0)]) (fun _ => [stO n o, pinE RTV]) (fun _ => True) (fun _ => 0) () trivial ?_
  intro _ _ I2 _
  refine sx hX [] 4000 rfl (by (simp [conjP])) ?_
  refine sx hX [.F] 4000 rfl (by (simp [conjP, addOP])) ?_
  (refine ss_end hX [0, 1] rfl rfl trivial rfl rfl rfl rfl ?vv ?hh (by (repeat' (first | exact rfl | exact trivial | exact sim_refl _ | refine And.intro ?_ ?_))) (by (repeat' (first | exact rfl | exact trivial | exact sim_refl _ | refine And.intro ?_ ?_))); (case vv => first | ((repeat' (first | exact rfl | exact trivial | exact sim_refl _ | refine And.intro ?_ ?_)); done) | (simp [tupF, SV.ren, sim, simO0]; done)); (case hh => (repeat' (first | exact rfl | exact trivial | exact sim_refl _ | refine And.intro ?_ ?_)); done))

def fT_ln (l : List Int) (z : List Int) : List (Nat × SV) := [(5, .tt), (8, .sbuf 2 1 0 l.length), (9, .niliface), (10, .nilslice), (11, .niliface), (12, .sbuf 3 1 0 z.length), (13, .niliface)]
def fH_ln (n : Nat) (o : Nat → SetP) (l : List Int) (z : List Int) : List HE := [stO n o, pinE RTV, IB l, IB z]
set_option maxHeartbeats 16000000 in
theorem ft_ln (n : Nat) (o : Nat → SetP) {l : List Int} {z : List Int} {Wl : List Int} {rM : HR} {h0 : Nat} (hz1 : z.length = l.length + ([] : List Int).length) (hz2 : z.Pairwise (· < ·)) (hz3 : ∀ x ∈ z, x ∈ l ∨ x ∈ ([] : List Int)) (hz4 : z.length ≤ 24) {ρ : Nat → Nat × Nat} {w : World} :
    SS (hXHh Wl (.ok (some l)) (.ok none) (.ok (some z)) rM h0) (At ρ w) (Is .tt [stO n o, pinE RTV]) ⟨[], [], Tryd.f6, Tryd.f6.ntmps, [stO n o, pinE RTV], contF Tryd.f6 15 [], fT_ln l z, fH_ln n o l z⟩ := by
  have hX := hXHh Wl (.ok (some l)) (.ok none) (.ok (some z)) rM h0
  have hl6 : l.length < 1000000 := by omega
  have hz5 : (z.length : Int) = (l.length : Int) + (([] : List Int).length : Int) := by omega
  have hl7 : l.length ≤ 24 := by omega
  skip
  have nx : SS (hXHh Wl (.ok (some l)) (.ok none) (.ok (some z)) rM h0) (At ρ w) (Is .tt [stO n o, pinE RTV]) ⟨[], [], Tryd.f6, Tryd.f6.ntmps, [stO n o, pinE RTV], contF Tryd.f6 22 [], [(5, .tt), (8, .sbuf 2 1 0 l.length), (10, .nilslice), (12, .sbuf 3 1 0 z.length)], fH_ln n o l z⟩ := by
    refine sxb hX [.l] [] 4000 rfl trivial ?_
    refine ss_sub hX (T' := [(5, .tt), (8, .sbuf 2 1 0 l.length), (10, .nilslice), (12, .sbuf 3 1 0 z.length), (18, .int .i64 ((0 : Nat) : Int))]) (H' := fH_ln n o l z) [0, 1, 2, 3] rfl rfl rfl rfl (by (repeat' (first | exact rfl | exact trivial | exact sim_refl _ | refine And.intro ?_ ?_))) (by (repeat' (first | exact rfl | exact trivial | exact sim_refl _ | refine And.intro ?_ ?_))) (by (repeat' (first | exact rfl | exact trivial | exact sim_refl _ | refine And.intro ?_ ?_))) (by (repeat' (first | exact rfl | exact trivial | exact sim_refl _ | refine And.intro ?_ ?_))) ?_
    refine ss_loop hX (fun i : Nat => [(5, .tt), (8, .sbuf 2 1 0 l.length), (10, .nilslice), (12, .sbuf 3 1 0 z.length), (18, .int .i64 (i : Int))]) (fun _ => fH_ln n o l z) (fun i => i ≤ z.length) (fun i => z.length - i) 0 (Nat.zero_le _) ?_
    intro i hi0 I2 back
    have hi : i ≤ z.length := hi0
    by_cases h1 : i < z.length
    · have h2 : (i : Int) < (z.length : Int) := by omega
      have hmz : z.getD i 0 ∈ z := by rw [List.getD_eq_getElem?_getD, List.getElem?_eq_getElem h1]; simp
      have hor : hasL l (z.getD i 0) = true ∨ hasL ([] : List Int) (z.getD i 0) = true := by rw [hasL_iff, hasL_iff]; exact hz3 _ hmz
      rcases i with _ | i
      · rcases hB0 : hasL l (z.getD 0 0) with _ | _
        · have hB1 : hasL ([] : List Int) (z.getD 0 0) = true := by rcases hor with q | q; (rw [hB0] at q; simp at q); exact q
          simp [hasL_nil2] at hB1
        · refine sx hX [] 4000 rfl (by (simp [conjP])) ?_
          refine sx hX [.T] 4000 rfl (by (simp [conjP, addOP, h1])) ?_
          refine sx hX [.K, .K, .F, .K, .F] 4000 rfl (by (simp [-List.getD_eq_getElem?_getD, -List.length_eq_zero_iff, conjP, h1, hB0, hl6, cellOff])) ?_
          (refine back 1 ?q1 ?q2 _ _ _ (sub_of [0, 1, 2, 3] rfl rfl rfl rfl (by (repeat' (first | exact rfl | exact trivial | exact sim_refl _ | refine And.intro ?_ ?_))) (by (repeat' (first | exact rfl | exact trivial | exact sim_refl _ | refine And.intro ?_ ?_))) (by (repeat' (first | exact rfl | exact trivial | exact sim_refl _ | refine And.intro ?_ ?_))) (by (repeat' (first | exact rfl | exact trivial | exact sim_refl _ | refine And.intro ?_ ?_)))); (case q1 => exact h1); (case q2 => omega))
      · have hlt := asc_get hz2 h1
        have hlt2 : ¬ z.getD (i + 1) 0 ≤ z.getD i 0 := by omega
        have hi2 : i < z.length := by omega
        have hw1 : IntKind.i64.wrap (((i + 1 : Nat) : Int) - 1) = (i : Int) := by rw [wi64 (by omega) (by omega)]; omega
        have hw2 : IntKind.i64.wrap ((i : Int)) = (i : Int) := wi64 (by omega) (by omega)
        have hp1 : (0 : Int) < ((i + 1 : Nat) : Int) := by omega
        have hi3 : (i : Int) < (z.length : Int) := by omega
        have ht1 : (((i + 1 : Nat) : Int)).toNat = i + 1 := by omega
        have ewj : IntKind.i64.wrap (((i + 1 : Nat) : Int) + 1) = ((i + 1 + 1 : Nat) : Int) := by rw [wi64 (by omega) (by omega)]; omega
        rcases hB0 : hasL l (z.getD (i + 1) 0) with _ | _
        · have hB1 : hasL ([] : List Int) (z.getD (i + 1) 0) = true := by rcases hor with q | q; (rw [hB0] at q; simp at q); exact q
          simp [hasL_nil2] at hB1
        · refine sx hX [] 4000 rfl (by (simp [conjP])) ?_
          refine sx hX [.T] 4000 rfl (by (simp [conjP, addOP] <;> (first | omega | ((repeat' (refine And.intro ?_ ?_)) <;> (first | omega | exact decide_eq_false (by omega) | exact decide_eq_true (by omega)))))) ?_
          refine sx hX [.K, .K, .F, .K, .T] 4000 rfl (by (simp [-List.getD_eq_getElem?_getD, -List.length_eq_zero_iff, conjP, h1, hB0, hi2, hi3, hw2, hl6, cellOff] <;> (first | omega | ((repeat' (refine And.intro ?_ ?_)) <;> (first | omega | exact decide_eq_false (by omega) | exact decide_eq_true (by omega)))))) ?_
          refine sx hX [.F] 4000 rfl (by (simp [-List.getD_eq_getElem?_getD, -List.length_eq_zero_iff, conjP, addOP, hlt2, hw2, cellOff])) ?_
          (refine back (i + 1 + 1) ?q1 ?q2 _ _ _ (sub_of [0, 1, 2, 3] rfl rfl rfl rfl ?tt (by (repeat' (first | exact rfl | exact trivial | exact sim_refl _ | refine And.intro ?_ ?_))) (by (repeat' (first | exact rfl | exact trivial | exact sim_refl _ | refine And.intro ?_ ?_))) (by (repeat' (first | exact rfl | exact trivial | exact sim_refl _ | refine And.intro ?_ ?_)))); (case tt => refine ⟨by (repeat' (first | exact rfl | exact trivial | exact sim_refl _ | refine And.intro ?_ ?_)), by (repeat' (first | exact rfl | exact trivial | exact sim_refl _ | refine And.intro ?_ ?_)), by (repeat' (first | exact rfl | exact trivial | exact sim_refl _ | refine And.intro ?_ ?_)), by (repeat' (first | exact rfl | exact trivial | exact sim_refl _ | refine And.intro ?_ ?_)), ⟨rfl, ewj⟩, trivial⟩); (case q1 => exact h1); (case q2 => omega))
    · have h2 : ¬ (i : Int) < (z.length : Int) := by omega
      refine sx hX [] 4000 rfl (by (simp [conjP])) ?_
      refine sx hX [.F] 4000 rfl (by (simp [conjP, addOP, h2])) ?_
      (refine ss_end hX [0, 1] rfl rfl trivial rfl rfl rfl rfl ?vv ?hh (by (repeat' (first | exact rfl | exact trivial | exact sim_refl _ | refine And.intro ?_ ?_))) (by (repeat' (first | exact rfl | exact trivial | exact sim_refl _ | refine And.intro ?_ ?_))); (case vv => first | ((repeat' (first | exact rfl | exact trivial | exact sim_refl _ | refine And.intro ?_ ?_)); done) | (simp [tupF, SV.ren, sim, simO0]; done)); (case hh => (repeat' (first | exact rfl | exact trivial | exact sim_refl _ | refine And.intro ?_ ?_)); done))
  have hwa : IntKind.i64.wrap (l.length : Int) = (l.length : Int) := wi64 (by omega) (by omega)
  have hz6 : (z.length : Int) = (l.length : Int) := by simpa using hz5
  refine sxb hX [.r 22] [] 4000 rfl (by (simp [conjP])) ?_
  refine sxb hX [.r 22] [.T] 4000 rfl (by (simp [conjP, addOP])) ?_
  refine sxb hX [.r 22] [.F] 4000 rfl (by (simp [conjP, addOP])) ?_
  refine sxb hX [.r 22] [.F] 4000 rfl (by (simp [conjP, addOP])) ?_
  refine sxb hX [.r 22] [.F] 4000 rfl (by (simp [conjP, addOP, hz6, hwa])) ?_
  (refine ss_sub hX (T' := [(5, .tt), (8, .sbuf 2 1 0 l.length), (10, .nilslice), (12, .sbuf 3 1 0 z.length)]) (H' := fH_ln n o l z) [0, 1, 2, 3] rfl rfl rfl rfl (by (repeat' (first | exact rfl | exact trivial | exact sim_refl _ | refine And.intro ?_ ?_))) (by (repeat' (first | exact rfl | exact trivial | exact sim_refl _ | refine And.intro ?_ ?_))) (by (repeat' (first | exact rfl | exact trivial | exact sim_refl _ | refine And.intro ?_ ?_))) (by (repeat' (first | exact rfl | exact trivial | exact sim_refl _ | refine And.intro ?_ ?_))) ?_; exact nx)

def fT_nm (m : List Int) (z : List Int) : List (Nat × SV) := [(5, .tt), (8, .nilslice), (9, .niliface), (10, .sbuf 2 1 0 m.length), (11, .niliface), (12, .sbuf 3 1 0 z.length), (13, .niliface)]
def fH_nm (n : Nat) (o : Nat → SetP) (m : List Int) (z : List Int) : List HE := [stO n o, pinE RTV, IB m, IB z]
set_option maxHeartbeats 16000000 in
theorem ft_nm (n : Nat) (o : Nat → SetP) {m : List Int} {z : List Int} {Wl : List Int} {rM : HR} {h0 : Nat} (hz1 : z.length = ([] : List Int).length + m.length) (hz2 : z.Pairwise (· < ·)) (hz3 : ∀ x ∈ z, x ∈ ([] : List Int) ∨ x ∈ m) (hz4 : z.length ≤ 24) {ρ : Nat → Nat × Nat} {w : World} :
    SS (hXHh Wl (.ok none) (.ok (some m)) (.ok (some z)) rM h0) (At ρ w) (Is .tt [stO n o, pinE RTV]) ⟨[], [], Tryd.f6, Tryd.f6.ntmps, [stO n o, pinE RTV], contF Tryd.f6 15 [], fT_nm m z, fH_nm n o m z⟩ := by
  have hX := hXHh Wl (.ok none) (.ok (some m)) (.ok (some z)) rM h0
  have hm6 : m.length < 1000000 := by omega
  have hz5 : (z.length : Int) = (([] : List Int).length : Int) + (m.length : Int) := by omega
  skip
  have hm7 : m.length ≤ 24 := by omega
  have nx : SS (hXHh Wl (.ok none) (.ok (some m)) (.ok (some z)) rM h0) (At ρ w) (Is .tt [stO n o, pinE RTV]) ⟨[], [], Tryd.f6, Tryd.f6.ntmps, [stO n o, pinE RTV], contF Tryd.f6 22 [], [(5, .tt), (8, .nilslice), (10, .sbuf 2 1 0 m.length), (12, .sbuf 3 1 0 z.length)], fH_nm n o m z⟩ := by
    refine sxb hX [.l] [] 4000 rfl trivial ?_
    refine ss_sub hX (T' := [(5, .tt), (8, .nilslice), (10, .sbuf 2 1 0 m.length), (12, .sbuf 3 1 0 z.length), (18, .int .i64 ((0 : Nat) : Int))]) (H' := fH_nm n o m z) [0, 1, 2, 3] rfl rfl rfl rfl (by (repeat' (first | exact rfl | exact trivial | exact sim_refl _ | refine And.intro ?_ ?_))) (by (repeat' (first | exact rfl | exact trivial | exact sim_refl _ | refine And.intro ?_ ?_))) (by (repeat' (first | exact rfl | exact trivial | exact sim_refl _ | refine And.intro ?_ ?_))) (by (repeat' (first | exact rfl | exact trivial | exact sim_refl _ | refine And.intro ?_ ?_))) ?_
    refine ss_loop hX (fun i : Nat => [(5, .tt), (8, .nilslice), (10, .sbuf 2 1 0 m.length), (12, .sbuf 3 1 0 z.length), (18, .int .i64 (i : Int))]) (fun _ => fH_nm n o m z) (fun i => i ≤ z.length) (fun i => z.length - i) 0 (Nat.zero_le _) ?_
    intro i hi0 I2 back
    have hi : i ≤ z.length := hi0
    by_cases h1 : i < z.length
    · have h2 : (i : Int) < (z.length : Int) := by omega
      have hmz : z.getD i 0 ∈ z := by rw [List.getD_eq_getElem?_getD, List.getElem?_eq_getElem h1]; simp
      have hor : hasL ([] : List Int) (z.getD i 0) = true ∨ hasL m (z.getD i 0) = true := by rw [hasL_iff, hasL_iff]; exact hz3 _ hmz
      rcases i with _ | i
      · rcases hB0 : hasL ([] : List Int) (z.getD 0 0) with _ | _
        · have hB1 : hasL m (z.getD 0 0) = true := by rcases hor with q | q; (rw [hB0] at q; simp at q); exact q
          refine sx hX [] 4000 rfl (by (simp [conjP])) ?_
          refine sx hX [.T] 4000 rfl (by (simp [conjP, addOP, h1])) ?_
          refine sx hX [.K, .K, .T, .K, .K, .K, .F, .K, .F] 4000 rfl (by (simp [-List.getD_eq_getElem?_getD, -List.length_eq_zero_iff, conjP, h1, hB1, hm6, cellOff])) ?_
          (refine back 1 ?q1 ?q2 _ _ _ (sub_of [0, 1, 2, 3] rfl rfl rfl rfl (by (repeat' (first | exact rfl | exact trivial | exact sim_refl _ | refine And.intro ?_ ?_))) (by (repeat' (first | exact rfl | exact trivial | exact sim_refl _ | refine And.intro ?_ ?_))) (by (repeat' (first | exact rfl | exact trivial | exact sim_refl _ | refine And.intro ?_ ?_))) (by (repeat' (first | exact rfl | exact trivial | exact sim_refl _ | refine And.intro ?_ ?_)))); (case q1 => exact h1); (case q2 => omega))
        · simp [hasL_nil2] at hB0
      · have hlt := asc_get hz2 h1
        have hlt2 : ¬ z.getD (i + 1) 0 ≤ z.getD i 0 := by omega
        have hi2 : i < z.length := by omega
        have hw1 : IntKind.i64.wrap (((i + 1 : Nat) : Int) - 1) = (i : Int) := by rw [wi64 (by omega) (by omega)]; omega
        have hw2 : IntKind.i64.wrap ((i : Int)) = (i : Int) := wi64 (by omega) (by omega)
        have hp1 : (0 : Int) < ((i + 1 : Nat) : Int) := by omega
        have hi3 : (i : Int) < (z.length : Int) := by omega
        have ht1 : (((i + 1 : Nat) : Int)).toNat = i + 1 := by omega
        have ewj : IntKind.i64.wrap (((i + 1 : Nat) : Int) + 1) = ((i + 1 + 1 : Nat) : Int) := by rw [wi64 (by omega) (by omega)]; omega
        rcases hB0 : hasL ([] : List Int) (z.getD (i + 1) 0) with _ | _
        · have hB1 : hasL m (z.getD (i + 1) 0) = true := by rcases hor with q | q; (rw [hB0] at q; simp at q); exact q
          refine sx hX [] 4000 rfl (by (simp [conjP])) ?_
          refine sx hX [.T] 4000 rfl (by (simp [conjP, addOP] <;> (first | omega | ((repeat' (refine And.intro ?_ ?_)) <;> (first | omega | exact decide_eq_false (by omega) | exact decide_eq_true (by omega)))))) ?_
          refine sx hX [.K, .K, .T, .K, .K, .K, .F, .K, .T] 4000 rfl (by (simp [-List.getD_eq_getElem?_getD, -List.length_eq_zero_iff, conjP, h1, hB1, hi2, hi3, hw2, hm6, cellOff] <;> (first | omega | ((repeat' (refine And.intro ?_ ?_)) <;> (first | omega | exact decide_eq_false (by omega) | exact decide_eq_true (by omega)))))) ?_
          refine sx hX [.F] 4000 rfl (by (simp [-List.getD_eq_getElem?_getD, -List.length_eq_zero_iff, conjP, addOP, hlt2, hw2, cellOff])) ?_
          (refine back (i + 1 + 1) ?q1 ?q2 _ _ _ (sub_of [0, 1, 2, 3] rfl rfl rfl rfl ?tt (by (repeat' (first | exact rfl | exact trivial | exact sim_refl _ | refine And.intro ?_ ?_))) (by (repeat' (first | exact rfl | exact trivial | exact sim_refl _ | refine And.intro ?_ ?_))) (by (repeat' (first | exact rfl | exact trivial | exact sim_refl _ | refine And.intro ?_ ?_)))); (case tt => refine ⟨by (repeat' (first | exact rfl | exact trivial | exact sim_refl _ | refine And.intro ?_ ?_)), by (repeat' (first | exact rfl | exact trivial | exact sim_refl _ | refine And.intro ?_ ?_)), by (repeat' (first | exact rfl | exact trivial | exact sim_refl _ | refine And.intro ?_ ?_)), by (repeat' (first | exact rfl | exact trivial | exact sim_refl _ | refine And.intro ?_ ?_)), ⟨rfl, ewj⟩, trivial⟩); (case q1 => exact h1); (case q2 => omega))
        · simp [hasL_nil2] at hB0
    · have h2 : ¬ (i : Int) < (z.length : Int) := by omega
      refine sx hX [] 4000 rfl (by (simp [conjP])) ?_
      refine sx hX [.F] 4000 rfl (by (simp [conjP, addOP, h2])) ?_
      (refine ss_end hX [0, 1] rfl rfl trivial rfl rfl rfl rfl ?vv ?hh (by (repeat' (first | exact rfl | exact trivial | exact sim_refl _ | refine And.intro ?_ ?_))) (by (repeat' (first | exact rfl | exact trivial | exact sim_refl _ | refine And.intro ?_ ?_))); (case vv => first | ((repeat' (first | exact rfl | exact trivial | exact sim_refl _ | refine And.intro ?_ ?_)); done) | (simp [tupF, SV.ren, sim, simO0]; done)); (case hh => (repeat' (first | exact rfl | exact trivial | exact sim_refl _ | refine And.intro ?_ ?_)); done))
  have hwa : IntKind.i64.wrap (m.length : Int) = (m.length : Int) := wi64 (by omega) (by omega)
  have hz6 : (z.length : Int) = (m.length : Int) := by simpa using hz5
  refine sxb hX [.r 22] [] 4000 rfl (by (simp [conjP])) ?_
  refine sxb hX [.r 22] [.T] 4000 rfl (by (simp [conjP, addOP])) ?_
  refine sxb hX [.r 22] [.F] 4000 rfl (by (simp [conjP, addOP])) ?_
  refine sxb hX [.r 22] [.F] 4000 rfl (by (simp [conjP, addOP])) ?_
  refine sxb hX [.r 22] [.F] 4000 rfl (by (simp [conjP, addOP, hz6, hwa])) ?_
  (refine ss_sub hX (T' := [(5, .tt), (8, .nilslice), (10, .sbuf 2 1 0 m.length), (12, .sbuf 3 1 0 z.length)]) (H' := fH_nm n o m z) [0, 1, 2, 3] rfl rfl rfl rfl (by (repeat' (first | exact rfl | exact trivial | exact sim_refl _ | refine And.intro ?_ ?_))) (by (repeat' (first | exact rfl | exact trivial | exact sim_refl _ | refine And.intro ?_ ?_))) (by (repeat' (first | exact rfl | exact trivial | exact sim_refl _ | refine And.intro ?_ ?_))) (by (repeat' (first | exact rfl | exact trivial | exact sim_refl _ | refine And.intro ?_ ?_))) ?_; exact nx)

def fT_lm (l : List Int) (m : List Int) (z : List Int) : List (Nat × SV) := [(5, .tt), (8, .sbuf 2 1 0 l.length), (9, .niliface), (10, .sbuf 3 1 0 m.length), (11, .niliface), (12, .sbuf 4 1 0 z.length), (13, .niliface)]
def fH_lm (n : Nat) (o : Nat → SetP) (l : List Int) (m : List Int) (z : List Int) : List HE := [stO n o, pinE RTV, IB l, IB m, IB z]
set_option maxHeartbeats 16000000 in
theorem ft_lm (n : Nat) (o : Nat → SetP) {l : List Int} {m : List Int} {z : List Int} {Wl : List Int} {rM : HR} {h0 : Nat} (hz1 : z.length = l.length + m.length) (hz2 : z.Pairwise (· < ·)) (hz3 : ∀ x ∈ z, x ∈ l ∨ x ∈ m) (hz4 : z.length ≤ 24) {ρ : Nat → Nat × Nat} {w : World} :
    SS (hXHh Wl (.ok (some l)) (.ok (some m)) (.ok (some z)) rM h0) (At ρ w) (Is .tt [stO n o, pinE RTV]) ⟨[], [], Tryd.f6, Tryd.f6.ntmps, [stO n o, pinE RTV], contF Tryd.f6 15 [], fT_lm l m z, fH_lm n o l m z⟩ := by
  have hX := hXHh Wl (.ok (some l)) (.ok (some m)) (.ok (some z)) rM h0
  have hl6 : l.length < 1000000 := by omega
  have hm6 : m.length < 1000000 := by omega
  have hz5 : (z.length : Int) = (l.length : Int) + (m.length : Int) := by omega
  have hl7 : l.length ≤ 24 := by omega
  have hm7 : m.length ≤ 24 := by omega
  have nx : SS (hXHh Wl (.ok (some l)) (.ok (some m)) (.ok (some z)) rM h0) (At ρ w) (Is .tt [stO n o, pinE RTV]) ⟨[], [], Tryd.f6, Tryd.f6.ntmps, [stO n o, pinE RTV], contF Tryd.f6 22 [], [(5, .tt), (8, .sbuf 2 1 0 l.length), (10, .sbuf 3 1 0 m.length), (12, .sbuf 4 1 0 z.length)], fH_lm n o l m z⟩ := by
    refine sxb hX [.l] [] 4000 rfl trivial ?_
    refine ss_sub hX (T' := [(5, .tt), (8, .sbuf 2 1 0 l.length), (10, .sbuf 3 1 0 m.length), (12, .sbuf 4 1 0 z.length), (18, .int .i64 ((0 : Nat) : Int))]) (H' := fH_lm n o l m z) [0, 1, 2, 3, 4] rfl rfl rfl rfl (by (repeat' (first | exact rfl | exact trivial | exact sim_refl _ | refine And.intro ?_ ?_))) (by (repeat' (first | exact rfl | exact trivial | exact sim_refl _ | refine And.intro ?_ ?_))) (by (repeat' (first | exact rfl | exact trivial | exact sim_refl _ | refine And.intro ?_ ?_))) (by (repeat' (first | exact rfl | exact trivial | exact sim_refl _ | refine And.intro ?_ ?_))) ?_
    refine ss_loop hX (fun i : Nat => [(5, .tt), (8, .sbuf 2 1 0 l.length), (10, .sbuf 3 1 0 m.length), (12, .sbuf 4 1 0 z.length), (18, .int .i64 (i : Int))]) (fun _ => fH_lm n o l m z) (fun i => i ≤ z.length) (fun i => z.length - i) 0 (Nat.zero_le _) ?_
    intro i hi0 I2 back
    have hi : i ≤ z.length := hi0
    by_cases h1 : i < z.length
    · have h2 : (i : Int) < (z.length : Int) := by omega
      have hmz : z.getD i 0 ∈ z := by rw [List.getD_eq_getElem?_getD, List.getElem?_eq_getElem h1]; simp
      have hor : hasL l (z.getD i 0) = true ∨ hasL m (z.getD i 0) = true := by rw [hasL_iff, hasL_iff]; exact hz3 _ hmz
      rcases i with _ | i
      · rcases hB0 : hasL l (z.getD 0 0) with _ | _
        · have hB1 : hasL m (z.getD 0 0) = true := by rcases hor with q | q; (rw [hB0] at q; simp at q); exact q
          refine sx hX [] 4000 rfl (by (simp [conjP])) ?_
          refine sx hX [.T] 4000 rfl (by (simp [conjP, addOP, h1])) ?_
          refine sx hX [.K, .K, .T, .K, .K, .K, .F, .K, .F] 4000 rfl (by (simp [-List.getD_eq_getElem?_getD, -List.length_eq_zero_iff, conjP, h1, hB0, hB1, hl6, hm6, cellOff])) ?_
          (refine back 1 ?q1 ?q2 _ _ _ (sub_of [0, 1, 2, 3, 4] rfl rfl rfl rfl (by (repeat' (first | exact rfl | exact trivial | exact sim_refl _ | refine And.intro ?_ ?_))) (by (repeat' (first | exact rfl | exact trivial | exact sim_refl _ | refine And.intro ?_ ?_))) (by (repeat' (first | exact rfl | exact trivial | exact sim_refl _ | refine And.intro ?_ ?_))) (by (repeat' (first | exact rfl | exact trivial | exact sim_refl _ | refine And.intro ?_ ?_)))); (case q1 => exact h1); (case q2 => omega))
        · refine sx hX [] 4000 rfl (by (simp [conjP])) ?_
          refine sx hX [.T] 4000 rfl (by (simp [conjP, addOP, h1])) ?_
          refine sx hX [.K, .K, .F, .K, .F] 4000 rfl (by (simp [-List.getD_eq_getElem?_getD, -List.length_eq_zero_iff, conjP, h1, hB0, hl6, cellOff])) ?_
          (refine back 1 ?q1 ?q2 _ _ _ (sub_of [0, 1, 2, 3, 4] rfl rfl rfl rfl (by (repeat' (first | exact rfl | exact trivial | exact sim_refl _ | refine And.intro ?_ ?_))) (by (repeat' (first | exact rfl | exact trivial | exact sim_refl _ | refine And.intro ?_ ?_))) (by (repeat' (first | exact rfl | exact trivial | exact sim_refl _ | refine And.intro ?_ ?_))) (by (repeat' (first | exact rfl | exact trivial | exact sim_refl _ | refine And.intro ?_ ?_)))); (case q1 => exact h1); (case q2 => omega))
      · have hlt := asc_get hz2 h1
        have hlt2 : ¬ z.getD (i + 1) 0 ≤ z.getD i 0 := by omega
        have hi2 : i < z.length := by omega
        have hw1 : IntKind.i64.wrap (((i + 1 : Nat) : Int) - 1) = (i : Int) := by rw [wi64 (by omega) (by omega)]; omega
        have hw2 : IntKind.i64.wrap ((i : Int)) = (i : Int) := wi64 (by omega) (by omega)
        have hp1 : (0 : Int) < ((i + 1 : Nat) : Int) := by omega
        have hi3 : (i : Int) < (z.length : Int) := by omega
        have ht1 : (((i + 1 : Nat) : Int)).toNat = i + 1 := by omega
        have ewj : IntKind.i64.wrap (((i + 1 : Nat) : Int) + 1) = ((i + 1 + 1 : Nat) : Int) := by rw [wi64 (by omega) (by omega)]; omega
        rcases hB0 : hasL l (z.getD (i + 1) 0) with _ | _
        · have hB1 : hasL m (z.getD (i + 1) 0) = true := by rcases hor with q | q; (rw [hB0] at q; simp at q); exact q
          refine sx hX [] 4000 rfl (by (simp [conjP])) ?_
          refine sx hX [.T] 4000 rfl (by (simp [conjP, addOP] <;> (first | omega | ((repeat' (refine And.intro ?_ ?_)) <;> (first | omega | exact decide_eq_false (by omega) | exact decide_eq_true (by omega)))))) ?_
          refine sx hX [.K, .K, .T, .K, .K, .K, .F, .K, .T] 4000 rfl (by (simp [-List.getD_eq_getElem?_getD, -List.length_eq_zero_iff, conjP, h1, hB0, hB1, hi2, hi3, hw2, hl6, hm6, cellOff] <;> (first | omega | ((repeat' (refine And.intro ?_ ?_)) <;> (first | omega | exact decide_eq_false (by omega) | exact decide_eq_true (by omega)))))) ?_
          refine sx hX [.F] 4000 rfl (by (simp [-List.getD_eq_getElem?_getD, -List.length_eq_zero_iff, conjP, addOP, hlt2, hw2, cellOff])) ?_
          (refine back (i + 1 + 1) ?q1 ?q2 _ _ _ (sub_of [0, 1, 2, 3, 4] rfl rfl rfl rfl ?tt (by (repeat' (first | exact rfl | exact trivial | exact sim_refl _ | refine And.intro ?_ ?_))) (by (repeat' (first | exact rfl | exact trivial | exact sim_refl _ | refine And.intro ?_ ?_))) (by (repeat' (first | exact rfl | exact trivial | exact sim_refl _ | refine And.intro ?_ ?_)))); (case tt => refine ⟨by (repeat' (first | exact rfl | exact trivial | exact sim_refl _ | refine And.intro ?_ ?_)), by (repeat' (first | exact rfl | exact trivial | exact sim_refl _ | refine And.intro ?_ ?_)), by (repeat' (first | exact rfl | exact trivial | exact sim_refl _ | refine And.intro ?_ ?_)), by (repeat' (first | exact rfl | exact trivial | exact sim_refl _ | refine And.intro ?_ ?_)), ⟨rfl, ewj⟩, trivial⟩); (case q1 => exact h1); (case q2 => omega))
        · refine sx hX [] 4000 rfl (by (simp [conjP])) ?_
          refine sx hX [.T] 4000 rfl (by (simp [conjP, addOP] <;> (first | omega | ((repeat' (refine And.intro ?_ ?_)) <;> (first | omega | exact decide_eq_false (by omega) | exact decide_eq_true (by omega)))))) ?_
          refine sx hX [.K, .K, .F, .K, .T] 4000 rfl (by (simp [-List.getD_eq_getElem?_getD, -List.length_eq_zero_iff, conjP, h1, hB0, hi2, hi3, hw2, hl6, cellOff] <;> (first | omega | ((repeat' (refine And.intro ?_ ?_)) <;> (first | omega | exact decide_eq_false (by omega) | exact decide_eq_true (by omega)))))) ?_
          refine sx hX [.F] 4000 rfl (by (simp [-List.getD_eq_getElem?_getD, -List.length_eq_zero_iff, conjP, addOP, hlt2, hw2, cellOff])) ?_
          (refine back (i + 1 + 1) ?q1 ?q2 _ _ _ (sub_of [0, 1, 2, 3, 4] rfl rfl rfl rfl ?tt (by (repeat' (first | exact rfl | exact trivial | exact sim_refl _ | refine And.intro ?_ ?_))) (by (repeat' (first | exact rfl | exact trivial | exact sim_refl _ | refine And.intro ?_ ?_))) (by (repeat' (first | exact rfl | exact trivial | exact sim_refl _ | refine And.intro ?_ ?_)))); (case tt => refine ⟨by (repeat' (first | exact rfl | exact trivial | exact sim_refl _ | refine And.intro ?_ ?_)), by (repeat' (first | exact rfl | exact trivial | exact sim_refl _ | refine And.intro ?_ ?_)), by (repeat' (first | exact rfl | exact trivial | exact sim_refl _ | refine And.intro ?_ ?_)), by (repeat' (first | exact rfl | exact trivial | exact sim_refl _ | refine And.intro ?_ ?_)), ⟨rfl, ewj⟩, trivial⟩); (case q1 => exact h1); (case q2 => omega))
    · have h2 : ¬ (i : Int) < (z.length : Int) := by omega
      refine sx hX [] 4000 rfl (by (simp [conjP])) ?_
      refine sx hX [.F] 4000 rfl (by (simp [conjP, addOP, h2])) ?_
      (refine ss_end hX [0, 1] rfl rfl trivial rfl rfl rfl rfl ?vv ?hh (by (repeat' (first | exact rfl | exact trivial | exact sim_refl _ | refine And.intro ?_ ?_))) (by (repeat' (first | exact rfl | exact trivial | exact sim_refl _ | refine And.intro ?_ ?_))); (case vv => first | ((repeat' (first | exact rfl | exact trivial | exact sim_refl _ | refine And.intro ?_ ?_)); done) | (simp [tupF, SV.ren, sim, simO0]; done)); (case hh => (repeat' (first | exact rfl | exact trivial | exact sim_refl _ | refine And.intro ?_ ?_)); done))
  have hwa : IntKind.i64.wrap ((l.length : Int) + (m.length : Int)) = (l.length : Int) + (m.length : Int) := wi64 (by omega) (by omega)
  have hz6 : (z.length : Int) = (l.length : Int) + (m.length : Int) := hz5
  refine sxb hX [.r 22] [] 4000 rfl (by (simp [conjP])) ?_
  refine sxb hX [.r 22] [.T] 4000 rfl (by (simp [conjP, addOP])) ?_
  refine sxb hX [.r 22] [.F] 4000 rfl (by (simp [conjP, addOP])) ?_
  refine sxb hX [.r 22] [.F] 4000 rfl (by (simp [conjP, addOP])) ?_
  refine sxb hX [.r 22] [.F] 4000 rfl (by (simp [conjP, addOP, hz6, hwa])) ?_
  (refine ss_sub hX (T' := [(5, .tt), (8, .sbuf 2 1 0 l.length), (10, .sbuf 3 1 0 m.length), (12, .sbuf 4 1 0 z.length)]) (H' := fH_lm n o l m z) [0, 1, 2, 3, 4] rfl rfl rfl rfl (by (repeat' (first | exact rfl | exact trivial | exact sim_refl _ | refine And.intro ?_ ?_))) (by (repeat' (first | exact rfl | exact trivial | exact sim_refl _ | refine And.intro ?_ ?_))) (by (repeat' (first | exact rfl | exact trivial | exact sim_refl _ | refine And.intro ?_ ?_))) (by (repeat' (first | exact rfl | exact trivial | exact sim_refl _ | refine And.intro ?_ ?_))) ?_; exact nx)

def fT_nb (_e _p : Int) : List (Nat × SV) := [(5, .tt), (8, .nilslice), (9, .niliface), (10, .nilslice), (11, .iface 93 (.ptr 2 0)), (12, .nilslice), (13, .iface 93 (.ptr 3 0))]
def fH_nb (n : Nat) (o : Nat → SetP) (e p : Int) : List HE := [stO n o, pinE RTV, atO e p, atO e p]
set_option maxHeartbeats 16000000 in
theorem ft_nb (n : Nat) (o : Nat → SetP) {e p : Int} {Wl : List Int} {rM : HR} {h0 : Nat} (he : e = 10 ∨ e = 16) {ρ : Nat → Nat × Nat} {w : World} :
    SS (hXHh Wl (.ok none) (.bad e p) (.bad e p) rM h0) (At ρ w) (Is .tt [stO n o, pinE RTV]) ⟨[], [], Tryd.f6, Tryd.f6.ntmps, [stO n o, pinE RTV], contF Tryd.f6 15 [], fT_nb e p, fH_nb n o e p⟩ := by
  have hX := hXHh Wl (.ok none) (.bad e p) (.bad e p) rM h0
  have he2 : ¬ e = 0 := by omega
  refine sx hX [] 4000 rfl (by (simp [conjP])) ?_
  refine sx hX [.T] 4000 rfl (by (simp [conjP])) ?_
  refine sx hX [.T] 4000 rfl (by (simp [conjP, he2])) ?_
  refine sx hX [.T] 4000 rfl (by (simp [conjP, addOP])) ?_
  (refine ss_end hX [0, 1] rfl rfl trivial rfl rfl rfl rfl ?vv ?hh (by (repeat' (first | exact rfl | exact trivial | exact sim_refl _ | refine And.intro ?_ ?_))) (by (repeat' (first | exact rfl | exact trivial | exact sim_refl _ | refine And.intro ?_ ?_))); (case vv => first | ((repeat' (first | exact rfl | exact trivial | exact sim_refl _ | refine And.intro ?_ ?_)); done) | (simp [tupF, SV.ren, sim, simO0]; done)); (case hh => (repeat' (first | exact rfl | exact trivial | exact sim_refl _ | refine And.intro ?_ ?_)); done))

def fT_lb (l : List Int) (_e _p : Int) : List (Nat × SV) := [(5, .tt), (8, .sbuf 2 1 0 l.length), (9, .niliface), (10, .nilslice), (11, .iface 93 (.ptr 3 0)), (12, .nilslice), (13, .iface 93 (.ptr 4 0))]
def fH_lb (n : Nat) (o : Nat → SetP) (l : List Int) (e p : Int) : List HE := [stO n o, pinE RTV, IB l, atO e p, atO e p]
set_option maxHeartbeats 16000000 in
theorem ft_lb (n : Nat) (o : Nat → SetP) {l : List Int} {e p : Int} {Wl : List Int} {rM : HR} {h0 : Nat} (he : e = 10 ∨ e = 16) {ρ : Nat → Nat × Nat} {w : World} :
    SS (hXHh Wl (.ok (some l)) (.bad e p) (.bad e p) rM h0) (At ρ w) (Is .tt [stO n o, pinE RTV]) ⟨[], [], Tryd.f6, Tryd.f6.ntmps, [stO n o, pinE RTV], contF Tryd.f6 15 [], fT_lb l e p, fH_lb n o l e p⟩ := by
  have hX := hXHh Wl (.ok (some l)) (.bad e p) (.bad e p) rM h0
  have he2 : ¬ e = 0 := by omega
  refine sx hX [] 4000 rfl (by (simp [conjP])) ?_
  refine sx hX [.T] 4000 rfl (by (simp [conjP])) ?_
  refine sx hX [.T] 4000 rfl (by (simp [conjP, he2])) ?_
  refine sx hX [.T] 4000 rfl (by (simp [conjP, addOP])) ?_
  (refine ss_end hX [0, 1] rfl rfl trivial rfl rfl rfl rfl ?vv ?hh (by (repeat' (first | exact rfl | exact trivial | exact sim_refl _ | refine And.intro ?_ ?_))) (by (repeat' (first | exact rfl | exact trivial | exact sim_refl _ | refine And.intro ?_ ?_))); (case vv => first | ((repeat' (first | exact rfl | exact trivial | exact sim_refl _ | refine And.intro ?_ ?_)); done) | (simp [tupF, SV.ren, sim, simO0]; done)); (case hh => (repeat' (first | exact rfl | exact trivial | exact sim_refl _ | refine And.intro ?_ ?_)); done))

def fT_bn (_e _p : Int) : List (Nat × SV) := [(5, .tt), (8, .nilslice), (9, .iface 93 (.ptr 2 0)), (10, .nilslice), (11, .niliface), (12, .nilslice), (13, .iface 93 (.ptr 3 0))]
def fH_bn (n : Nat) (o : Nat → SetP) (e p : Int) : List HE := [stO n o, pinE RTV, atO e p, atO e p]
set_option maxHeartbeats 16000000 in
theorem ft_bn (n : Nat) (o : Nat → SetP) {e p : Int} {Wl : List Int} {rM : HR} {h0 : Nat} (he : e = 10 ∨ e = 16) {ρ : Nat → Nat × Nat} {w : World} :
    SS (hXHh Wl (.bad e p) (.ok none) (.bad e p) rM h0) (At ρ w) (Is .tt [stO n o, pinE RTV]) ⟨[], [], Tryd.f6, Tryd.f6.ntmps, [stO n o, pinE RTV], contF Tryd.f6 15 [], fT_bn e p, fH_bn n o e p⟩ := by
  have hX := hXHh Wl (.bad e p) (.ok none) (.bad e p) rM h0
  have he2 : ¬ e = 0 := by omega
  refine sx hX [] 4000 rfl (by (simp [conjP])) ?_
  refine sx hX [.F] 4000 rfl (by (simp [conjP, addOP, he2])) ?_
  refine sx hX [.T] 4000 rfl (by (simp [conjP, he2])) ?_
  refine sx hX [.T] 4000 rfl (by (simp [conjP, addOP])) ?_
  (refine ss_end hX [0, 1] rfl rfl trivial rfl rfl rfl rfl ?vv ?hh (by (repeat' (first | exact rfl | exact trivial | exact sim_refl _ | refine And.intro ?_ ?_))) (by (repeat' (first | exact rfl | exact trivial | exact sim_refl _ | refine And.intro ?_ ?_))); (case vv => first | ((repeat' (first | exact rfl | exact trivial | exact sim_refl _ | refine And.intro ?_ ?_)); done) | (simp [tupF, SV.ren, sim, simO0]; done)); (case hh => (repeat' (first | exact rfl | exact trivial | exact sim_refl _ | refine And.intro ?_ ?_)); done))

def fT_bm (m : List Int) (_e _p : Int) : List (Nat × SV) := [(5, .tt), (8, .nilslice), (9, .iface 93 (.ptr 2 0)), (10, .sbuf 3 1 0 m.length), (11, .niliface), (12, .nilslice), (13, .iface 93 (.ptr 4 0))]
def fH_bm (n : Nat) (o : Nat → SetP) (m : List Int) (e p : Int) : List HE := [stO n o, pinE RTV, atO e p, IB m, atO e p]
set_option maxHeartbeats 16000000 in
theorem ft_bm (n : Nat) (o : Nat → SetP) {m : List Int} {e p : Int} {Wl : List Int} {rM : HR} {h0 : Nat} (he : e = 10 ∨ e = 16) {ρ : Nat → Nat × Nat} {w : World} :
    SS (hXHh Wl (.bad e p) (.ok (some m)) (.bad e p) rM h0) (At ρ w) (Is .tt [stO n o, pinE RTV]) ⟨[], [], Tryd.f6, Tryd.f6.ntmps, [stO n o, pinE RTV], contF Tryd.f6 15 [], fT_bm m e p, fH_bm n o m e p⟩ := by
  have hX := hXHh Wl (.bad e p) (.ok (some m)) (.bad e p) rM h0
  have he2 : ¬ e = 0 := by omega
  refine sx hX [] 4000 rfl (by (simp [conjP])) ?_
  refine sx hX [.F] 4000 rfl (by (simp [conjP, addOP, he2])) ?_
  refine sx hX [.T] 4000 rfl (by (simp [conjP, he2])) ?_
  refine sx hX [.T] 4000 rfl (by (simp [conjP, addOP])) ?_
  (refine ss_end hX [0, 1] rfl rfl trivial rfl rfl rfl rfl ?vv ?hh (by (repeat' (first | exact rfl | exact trivial | exact sim_refl _ | refine And.intro ?_ ?_))) (by (repeat' (first | exact rfl | exact trivial | exact sim_refl _ | refine And.intro ?_ ?_))); (case vv => first | ((repeat' (first | exact rfl | exact trivial | exact sim_refl _ | refine And.intro ?_ ?_)); done) | (simp [tupF, SV.ren, sim, simO0]; done)); (case hh => (repeat' (first | exact rfl | exact trivial | exact sim_refl _ | refine And.intro ?_ ?_)); done))

def fT_bc (_e _p : Int) (_e2 _p2 : Int) : List (Nat × SV) := [(5, .tt), (8, .nilslice), (9, .iface 93 (.ptr 2 0)), (10, .nilslice), (11, .iface 93 (.ptr 3 0)), (12, .nilslice), (13, .iface 93 (.ptr 4 0))]
def fH_bc (n : Nat) (o : Nat → SetP) (e p : Int) (e2 p2 : Int) : List HE := [stO n o, pinE RTV, atO e p, atO e2 p2, atO e p]
set_option maxHeartbeats 16000000 in
theorem ft_bc (n : Nat) (o : Nat → SetP) {e p : Int} {e2 p2 : Int} {Wl : List Int} {rM : HR} {h0 : Nat} (he : e = 10 ∨ e = 16) {ρ : Nat → Nat × Nat} {w : World} :
    SS (hXHh Wl (.bad e p) (.bad e2 p2) (.bad e p) rM h0) (At ρ w) (Is .tt [stO n o, pinE RTV]) ⟨[], [], Tryd.f6, Tryd.f6.ntmps, [stO n o, pinE RTV], contF Tryd.f6 15 [], fT_bc e p e2 p2, fH_bc n o e p e2 p2⟩ := by
  have hX := hXHh Wl (.bad e p) (.bad e2 p2) (.bad e p) rM h0
  have he2 : ¬ e = 0 := by omega
  refine sx hX [] 4000 rfl (by (simp [conjP])) ?_
  refine sx hX [.F] 4000 rfl (by (simp [conjP, addOP, he2])) ?_
  refine sx hX [.T] 4000 rfl (by (simp [conjP, he2])) ?_
  refine sx hX [.T] 4000 rfl (by (simp [conjP, addOP])) ?_
  (refine ss_end hX [0, 1] rfl rfl trivial rfl rfl rfl rfl ?vv ?hh (by (repeat' (first | exact rfl | exact trivial | exact sim_refl _ | refine And.intro ?_ ?_))) (by (repeat' (first | exact rfl | exact trivial | exact sim_refl _ | refine And.intro ?_ ?_))); (case vv => first | ((repeat' (first | exact rfl | exact trivial | exact sim_refl _ | refine And.intro ?_ ?_)); done) | (simp [tupF, SV.ren, sim, simO0]; done)); (case hh => (repeat' (first | exact rfl | exact trivial | exact sim_refl _ | refine And.intro ?_ ?_)); done))

def fT_nnn : List (Nat × SV) := [(5, .tt), (8, .nilslice), (9, .niliface), (10, .nilslice), (11, .niliface), (12, .nilslice), (13, .niliface)]
def fH_nnn : List HE := [pinE RTV]
set_option maxHeartbeats 16000000 in
theorem ft_nnn {Wl : List Int} {rM : HR} {h0 : Nat} {ρ : Nat → Nat × Nat} {w : World} :
    SS (hXHh Wl (.ok none) (.ok none) (.ok none) rM h0) (At ρ w) (Is .tt [pinE RTV]) ⟨[], [], Tryd.f6, Tryd.f6.ntmps, [pinE RTV], contF Tryd.f6 15 [], fT_nnn, fH_nnn⟩ := by
  have hX := hXHh Wl (.ok none) (.ok none) (.ok none) rM h0
  refine sxb hX [.l] [.T, .F, .F, .F] 4000 rfl (by simp [conjP, wr0]) ?_
  refine ss_sub hX (T' := [(5, .tt), (12, .nilslice), (18, .int .i64 0)]) (H' := [pinE RTV]) [0] rfl rfl rfl rfl (by (repeat' (first | exact rfl | exact trivial | exact sim_refl _ | refine And.intro ?_ ?_))) (by (repeat' (first | exact rfl | exact trivial | exact sim_refl _ | refine And.intro ?_ ?_))) (by (repeat' (first | exact rfl | exact trivial | exact sim_refl _ | refine And.intro ?_ ?_))) (by (repeat' (first | exact rfl | exact trivial | exact sim_refl _ | refine And.intro ?_ ?_))) ?_
  refine ss_loop hX (fun _ : Unit => [(5, .tt), (12, .nilslice), (18, .int .i64 0)]) (fun _ => [pinE RTV]) (fun _ => True) (fun _ => 0) () trivial ?_
  intro _ _ I2 _
  refine sx hX [] 4000 rfl (by (simp [conjP])) ?_
  refine sx hX [.F] 4000 rfl (by (simp [conjP, addOP])) ?_
  (refine ss_end hX [0] rfl rfl trivial rfl rfl rfl rfl ?vv ?hh (by (repeat' (first | exact rfl | exact trivial | exact sim_refl _ | refine And.intro ?_ ?_))) (by (repeat' (first | exact rfl | exact trivial | exact sim_refl _ | refine And.intro ?_ ?_))); (case vv => first | ((repeat' (first | exact rfl | exact trivial | exact sim_refl _ | refine And.intro ?_ ?_)); done) | (simp [tupF, SV.ren, sim, simO0]; done)); (case hh => (repeat' (first | exact rfl | exact trivial | exact sim_refl _ | refine And.intro ?_ ?_)); done))

def fT_lnn (l : List Int) (z : List Int) : List (Nat × SV) := [(5, .tt), (8, .sbuf 1 1 0 l.length), (9, .niliface), (10, .nilslice), (11, .niliface), (12, .sbuf 2 1 0 z.length), (13, .niliface)]
def fH_lnn (l : List Int) (z : List Int) : List HE := [pinE RTV, IB l, IB z]
set_option maxHeartbeats 16000000 in
theorem ft_lnn {l : List Int} {z : List Int} {Wl : List Int} {rM : HR} {h0 : Nat} (hz1 : z.length = l.length + ([] : List Int).length) (hz2 : z.Pairwise (· < ·)) (hz3 : ∀ x ∈ z, x ∈ l ∨ x ∈ ([] : List Int)) (hz4 : z.length ≤ 24) {ρ : Nat → Nat × Nat} {w : World} :
    SS (hXHh Wl (.ok (some l)) (.ok none) (.ok (some z)) rM h0) (At ρ w) (Is .tt [pinE RTV]) ⟨[], [], Tryd.f6, Tryd.f6.ntmps, [pinE RTV], contF Tryd.f6 15 [], fT_lnn l z, fH_lnn l z⟩ := by
  have hX := hXHh Wl (.ok (some l)) (.ok none) (.ok (some z)) rM h0
  have hl6 : l.length < 1000000 := by omega
  have hz5 : (z.length : Int) = (l.length : Int) + (([] : List Int).length : Int) := by omega
  have hl7 : l.length ≤ 24 := by omega
  skip
  have nx : SS (hXHh Wl (.ok (some l)) (.ok none) (.ok (some z)) rM h0) (At ρ w) (Is .tt [pinE RTV]) ⟨[], [], Tryd.f6, Tryd.f6.ntmps, [pinE RTV], contF Tryd.f6 22 [], [(5, .tt), (8, .sbuf 1 1 0 l.length), (10, .nilslice), (12, .sbuf 2 1 0 z.length)], fH_lnn l z⟩ := by
    refine sxb hX [.l] [] 4000 rfl trivial ?_
    refine ss_sub hX (T' := [(5, .tt), (8, .sbuf 1 1 0 l.length), (10, .nilslice), (12, .sbuf 2 1 0 z.length), (18, .int .i64 ((0 : Nat) : Int))]) (H' := fH_lnn l z) [0, 1, 2] rfl rfl rfl rfl (by (repeat' (first | exact rfl | exact trivial | exact sim_refl _ | refine And.intro ?_ ?_))) (by (repeat' (first | exact rfl | exact trivial | exact sim_refl _ | refine And.intro ?_ ?_))) (by (repeat' (first | exact rfl | exact trivial | exact sim_refl _ | refine And.intro ?_ ?_))) (by (repeat' (first | exact rfl | exact trivial | exact sim_refl _ | refine And.intro ?_ ?_))) ?_
    refine ss_loop hX (fun i : Nat => [(5, .tt), (8, .sbuf 1 1 0 l.length), (10, .nilslice), (12, .sbuf 2 1 0 z.length), (18, .int .i64 (i : Int))]) (fun _ => fH_lnn l z) (fun i => i ≤ z.length) (fun i => z.length - i) 0 (Nat.zero_le _) ?_
    intro i hi0 I2 back
    have hi : i ≤ z.length := hi0
    by_cases h1 : i < z.length
    · have h2 : (i : Int) < (z.length : Int) := by omega
      have hmz : z.getD i 0 ∈ z := by rw [List.getD_eq_getElem?_getD, List.getElem?_eq_getElem h1]; simp
      have hor : hasL l (z.getD i 0) = true ∨ hasL ([] : List Int) (z.getD i 0) = true := by rw [hasL_iff, hasL_iff]; exact hz3 _ hmz
      rcases i with _ | i
      · rcases hB0 : hasL l (z.getD 0 0) with _ | _
        · have hB1 : hasL ([] : List Int) (z.getD 0 0) = true := by rcases hor with q | q; (rw [hB0] at q; simp at q); exact q
          simp [hasL_nil2] at hB1
        · refine sx hX [] 4000 rfl (by (simp [conjP])) ?_
          refine sx hX [.T] 4000 rfl (by (simp [conjP, addOP, h1])) ?_
          refine sx hX [.K, .K, .F, .K, .F] 4000 rfl (by (simp [-List.getD_eq_getElem?_getD, -List.length_eq_zero_iff, conjP, h1, hB0, hl6, cellOff])) ?_
          (refine back 1 ?q1 ?q2 _ _ _ (sub_of [0, 1, 2] rfl rfl rfl rfl (by (repeat' (first | exact rfl | exact trivial | exact sim_refl _ | refine And.intro ?_ ?_))) (by (repeat' (first | exact rfl | exact trivial | exact sim_refl _ | refine And.intro ?_ ?_))) (by (repeat' (first | exact rfl | exact trivial | exact sim_refl _ | refine And.intro ?_ ?_))) (by (repeat' (first | exact rfl | exact trivial | exact sim_refl _ | refine And.intro ?_ ?_)))); (case q1 => exact h1); (case q2 => omega))
      · have hlt := asc_get hz2 h1
        have hlt2 : ¬ z.getD (i + 1) 0 ≤ z.getD i 0 := by omega
        have hi2 : i < z.length := by omega
        have hw1 : IntKind.i64.wrap (((i + 1 : Nat) : Int) - 1) = (i : Int) := by rw [wi64 (by omega) (by omega)]; omega
        have hw2 : IntKind.i64.wrap ((i : Int)) = (i : Int) := wi64 (by omega) (by omega)
        have hp1 : (0 : Int) < ((i + 1 : Nat) : Int) := by omega
        have hi3 : (i : Int) < (z.length : Int) := by omega
        have ht1 : (((i + 1 : Nat) : Int)).toNat = i + 1 := by omega
        have ewj : IntKind.i64.wrap (((i + 1 : Nat) : Int) + 1) = ((i + 1 + 1 : Nat) : Int) := by rw [wi64 (by omega) (by omega)]; omega
        rcases hB0 : hasL l (z.getD (i + 1) 0) with _ | _
        · have hB1 : hasL ([] : List Int) (z.getD (i + 1) 0) = true := by rcases hor with q | q; (rw [hB0] at q; simp at q); exact q
          simp [hasL_nil2] at hB1
        · refine sx hX [] 4000 rfl (by (simp [conjP])) ?_
          refine sx hX [.T] 4000 rfl (by (simp [conjP, addOP] <;> (first | omega | ((repeat' (refine And.intro ?_ ?_)) <;> (first | omega | exact decide_eq_false (by omega) | exact decide_eq_true (by omega)))))) ?_
          refine sx hX [.K, .K, .F, .K, .T] 4000 rfl (by (simp [-List.getD_eq_getElem?_getD, -List.length_eq_zero_iff, conjP, h1, hB0, hi2, hi3, hw2, hl6, cellOff] <;> (first | omega | ((repeat' (refine And.intro ?_ ?_)) <;> (first | omega | exact decide_eq_false (by omega) | exact decide_eq_true (by omega)))))) ?_
          refine sx hX [.F] 4000 rfl (by (simp [-List.getD_eq_getElem?_getD, -List.length_eq_zero_iff, conjP, addOP, hlt2, hw2, cellOff])) ?_
          (refine back (i + 1 + 1) ?q1 ?q2 _ _ _ (sub_of [0, 1, 2] rfl rfl rfl rfl ?tt (by (repeat' (first | exact rfl | exact trivial | exact sim_refl _ | refine And.intro ?_ ?_))) (by (repeat' (first | exact rfl | exact trivial | exact sim_refl _ | refine And.intro ?_ ?_))) (by (repeat' (first | exact rfl | exact trivial | exact sim_refl _ | refine And.intro ?_ ?_)))); (case tt => refine ⟨by (repeat' (first | exact rfl | exact trivial | exact sim_refl _ | refine And.intro ?_ ?_)), by (repeat' (first | exact rfl | exact trivial | exact sim_refl _ | refine And.intro ?_ ?_)), by (repeat' (first | exact rfl | exact trivial | exact sim_refl _ | refine And.intro ?_ ?_)), by (repeat' (first | exact rfl | exact trivial | exact sim_refl _ | refine And.intro ?_ ?_)), ⟨rfl, ewj⟩, trivial⟩); (case q1 => exact h1); (case q2 => omega))
    · have h2 : ¬ (i : Int) < (z.length : Int) := by omega
      refine sx hX [] 4000 rfl (by (simp [conjP])) ?_
      refine sx hX [.F] 4000 rfl (by (simp [conjP, addOP, h2])) ?_
      (refine ss_end hX [0] rfl rfl trivial rfl rfl rfl rfl ?vv ?hh (by (repeat' (first | exact rfl | exact trivial | exact sim_refl _ | refine And.intro ?_ ?_))) (by (repeat' (first | exact rfl | exact trivial | exact sim_refl _ | refine And.intro ?_ ?_))); (case vv => first | ((repeat' (first | exact rfl | exact trivial | exact sim_refl _ | refine And.intro ?_ ?_)); done) | (simp [tupF, SV.ren, sim, simO0]; done)); (case hh => (repeat' (first | exact rfl | exact trivial | exact sim_refl _ | refine And.intro ?_ ?_)); done))
  have hwa : IntKind.i64.wrap (l.length : Int) = (l.length : Int) := wi64 (by omega) (by omega)
  have hz6 : (z.length : Int) = (l.length : Int) := by simpa using hz5
  refine sxb hX [.r 22] [] 4000 rfl (by (simp [conjP])) ?_
  refine sxb hX [.r 22] [.T] 4000 rfl (by (simp [conjP, addOP])) ?_
  refine sxb hX [.r 22] [.F] 4000 rfl (by (simp [conjP, addOP])) ?_
  refine sxb hX [.r 22] [.F] 4000 rfl (by (simp [conjP, addOP])) ?_
  refine sxb hX [.r 22] [.F] 4000 rfl (by (simp [conjP, addOP, hz6, hwa])) ?_
  (refine ss_sub hX (T' := [(5, .tt), (8, .sbuf 1 1 0 l.length), (10, .nilslice), (12, .sbuf 2 1 0 z.length)]) (H' := fH_lnn l z) [0, 1, 2] rfl rfl rfl rfl (by (repeat' (first | exact rfl | exact trivial | exact sim_refl _ | refine And.intro ?_ ?_))) (by (repeat' (first | exact rfl | exact trivial | exact sim_refl _ | refine And.intro ?_ ?_))) (by (repeat' (first | exact rfl | exact trivial | exact sim_refl _ | refine And.intro ?_ ?_))) (by (repeat' (first | exact rfl | exact trivial | exact sim_refl _ | refine And.intro ?_ ?_))) ?_; exact nx)

def fT_nmn (m : List Int) (z : List Int) : List (Nat × SV) := [(5, .tt), (8, .nilslice), (9, .niliface), (10, .sbuf 1 1 0 m.length), (11, .niliface), (12, .sbuf 2 1 0 z.length), (13, .niliface)]
def fH_nmn (m : List Int) (z : List Int) : List HE := [pinE RTV, IB m, IB z]
set_option maxHeartbeats 16000000 in
theorem ft_nmn {m : List Int} {z : List Int} {Wl : List Int} {rM : HR} {h0 : Nat} (hz1 : z.length = ([] : List Int).length + m.length) (hz2 : z.Pairwise (· < ·)) (hz3 : ∀ x ∈ z, x ∈ ([] : List Int) ∨ x ∈ m) (hz4 : z.length ≤ 24) {ρ : Nat → Nat × Nat} {w : World} :
    SS (hXHh Wl (.ok none) (.ok (some m)) (.ok (some z)) rM h0) (At ρ w) (Is .tt [pinE RTV]) ⟨[], [], Tryd.f6, Tryd.f6.ntmps, [pinE RTV], contF Tryd.f6 15 [], fT_nmn m z, fH_nmn m z⟩ := by
  have hX := hXHh Wl (.ok none) (.ok (some m)) (.ok (some z)) rM h0
  have hm6 : m.length < 1000000 := by omega
  have hz5 : (z.length : Int) = (([] : List Int).length : Int) + (m.length : Int) := by omega
  skip
  have hm7 : m.length ≤ 24 := by omega
  have nx : SS (hXHh Wl (.ok none) (.ok (some m)) (.ok (some z)) rM h0) (At ρ w) (Is .tt [pinE RTV]) ⟨[], [], Tryd.f6, Tryd.f6.ntmps, [pinE RTV], contF Tryd.f6 22 [], [(5, .tt), (8, .nilslice), (10, .sbuf 1 1 0 m.length), (12, .sbuf 2 1 0 z.length)], fH_nmn m z⟩ := by
    refine sxb hX [.l] [] 4000 rfl trivial ?_
    refine ss_sub hX (T' := [(5, .tt), (8, .nilslice), (10, .sbuf 1 1 0 m.length), (12, .sbuf 2 1 0 z.length), (18, .int .i64 ((0 : Nat) : Int))]) (H' := fH_nmn m z) [0, 1, 2] rfl rfl rfl rfl (by (repeat' (first | exact rfl | exact trivial | exact sim_refl _ | refine And.intro ?_ ?_))) (by (repeat' (first | exact rfl | exact trivial | exact sim_refl _ | refine And.intro ?_ ?_))) (by (repeat' (first | exact rfl | exact trivial | exact sim_refl _ | refine And.intro ?_ ?_))) (by (repeat' (first | exact rfl | exact trivial | exact sim_refl _ | refine And.intro ?_ ?_))) ?_
    refine ss_loop hX (fun i : Nat => [(5, .tt), (8, .nilslice), (10, .sbuf 1 1 0 m.length), (12, .sbuf 2 1 0 z.length), (18, .int .i64 (i : Int))]) (fun _ => fH_nmn m z) (fun i => i ≤ z.length) (fun i => z.length - i) 0 (Nat.zero_le _) ?_
    intro i hi0 I2 back
    have hi : i ≤ z.length := hi0
    by_cases h1 : i < z.length
    · have h2 : (i : Int) < (z.length : Int) := by omega
      have hmz : z.getD i 0 ∈ z := by rw [List.getD_eq_getElem?_getD, List.getElem?_eq_getElem h1]; simp
      have hor : hasL ([] : List Int) (z.getD i 0) = true ∨ hasL m (z.getD i 0) = true := by rw [hasL_iff, hasL_iff]; exact hz3 _ hmz
      rcases i with _ | i
      · rcases hB0 : hasL ([] : List Int) (z.getD 0 0) with _ | _
        · have hB1 : hasL m (z.getD 0 0) = true := by rcases hor with q | q; (rw [hB0] at q; simp at q); exact q
          refine sx hX [] 4000 rfl (by (simp [conjP])) ?_
          refine sx hX [.T] 4000 rfl (by (simp [conjP, addOP, h1])) ?_
          refine sx hX [.K, .K, .T, .K, .K, .K, .F, .K, .F] 4000 rfl (by (simp [-List.getD_eq_getElem?_getD, -List.length_eq_zero_iff, conjP, h1, hB1, hm6, cellOff])) ?_
          (refine back 1 ?q1 ?q2 _ _ _ (sub_of [0, 1, 2] rfl rfl rfl rfl (by (repeat' (first | exact rfl | exact trivial | exact sim_refl _ | refine And.intro ?_ ?_))) (by (repeat' (first | exact rfl | exact trivial | exact sim_refl _ | refine And.intro ?_ ?_))) (by (repeat' (first | exact rfl | exact trivial | exact sim_refl _ | refine And.intro ?_ ?_))) (by (repeat' (first | exact rfl | exact trivial | exact sim_refl _ | refine And.intro ?_ ?_)))); (case q1 => exact h1); (case q2 => omega))
        · simp [hasL_nil2] at hB0
      · have hlt := asc_get hz2 h1
        have hlt2 : ¬ z.getD (i + 1) 0 ≤ z.getD i 0 := by omega
        have hi2 : i < z.length := by omega
        have hw1 : IntKind.i64.wrap (((i + 1 : Nat) : Int) - 1) = (i : Int) := by rw [wi64 (by omega) (by omega)]; omega
        have hw2 : IntKind.i64.wrap ((i : Int)) = (i : Int) := wi64 (by omega) (by omega)
        have hp1 : (0 : Int) < ((i + 1 : Nat) : Int) := by omega
        have hi3 : (i : Int) < (z.length : Int) := by omega
        have ht1 : (((i + 1 : Nat) : Int)).toNat = i + 1 := by omega
        have ewj : IntKind.i64.wrap (((i + 1 : Nat) : Int) + 1) = ((i + 1 + 1 : Nat) : Int) := by rw [wi64 (by omega) (by omega)]; omega
        rcases hB0 : hasL ([] : List Int) (z.getD (i + 1) 0) with _ | _
        · have hB1 : hasL m (z.getD (i + 1) 0) = true := by rcases hor with q | q; (rw [hB0] at q; simp at q); exact q
          refine sx hX [] 4000 rfl (by (simp [conjP])) ?_
          refine sx hX [.T] 4000 rfl (by (simp [conjP, addOP] <;> (first | omega | ((repeat' (refine And.intro ?_ ?_)) <;> (first | omega | exact decide_eq_false (by omega) | exact decide_eq_true (by omega)))))) ?_
          refine sx hX [.K, .K, .T, .K, .K, .K, .F, .K, .T] 4000 rfl (by (simp [-List.getD_eq_getElem?_getD, -List.length_eq_zero_iff, conjP, h1, hB1, hi2, hi3, hw2, hm6, cellOff] <;> (first | omega | ((repeat' (refine And.intro ?_ ?_)) <;> (first | omega | exact decide_eq_false (by omega) | exact decide_eq_true (by omega)))))) ?_
          refine sx hX [.F] 4000 rfl (by (simp [-List.getD_eq_getElem?_getD, -List.length_eq_zero_iff, conjP, addOP, hlt2, hw2, cellOff])) ?_
          (refine back (i + 1 + 1) ?q1 ?q2 _ _ _ (sub_of [0, 1, 2] rfl rfl rfl rfl ?tt (by (repeat' (first | exact rfl | exact trivial | exact sim_refl _ | refine And.intro ?_ ?_))) (by (repeat' (first | exact rfl | exact trivial | exact sim_refl _ | refine And.intro ?_ ?_))) (by (repeat' (first | exact rfl | exact trivial | exact sim_refl _ | refine And.intro ?_ ?_)))); (case tt => refine ⟨by (repeat' (first | exact rfl | exact trivial | exact sim_refl _ | refine And.intro ?_ ?_)), by (repeat' (first | exact rfl | exact trivial | exact sim_refl _ | refine And.intro ?_ ?_)), by (repeat' (first | exact rfl | exact trivial | exact sim_refl _ | refine And.intro ?_ ?_)), by (repeat' (first | exact rfl | exact trivial | exact sim_refl _ | refine And.intro ?_ ?_)), ⟨rfl, ewj⟩, trivial⟩); (case q1 => exact h1); (case q2 => omega))
        · simp [hasL_nil2] at hB0
    · have h2 : ¬ (i : Int) < (z.length : Int) := by omega
      refine sx hX [] 4000 rfl (by (simp [conjP])) ?_
      refine sx hX [.F] 4000 rfl (by (simp [conjP, addOP, h2])) ?_
      (refine ss_end hX [0] rfl rfl trivial rfl rfl rfl rfl ?vv ?hh (by (repeat' (first | exact rfl | exact trivial | exact sim_refl _ | refine And.intro ?_ ?_))) (by (repeat' (first | exact rfl | exact trivial | exact sim_refl _ | refine And.intro ?_ ?_))); (case vv => first | ((repeat' (first | exact rfl | exact trivial | exact sim_refl _ | refine And.intro ?_ ?_)); done) | (simp [tupF, SV.ren, sim, simO0]; done)); (case hh => (repeat' (first | exact rfl | exact trivial | exact sim_refl _ | refine And.intro ?_ ?_)); done))
  have hwa : IntKind.i64.wrap (m.length : Int) = (m.length : Int) := wi64 (by omega) (by omega)
  have hz6 : (z.length : Int) = (m.length : Int) := by simpa using hz5
  refine sxb hX [.r 22] [] 4000 rfl (by (simp [conjP])) ?_
  refine sxb hX [.r 22] [.T] 4000 rfl (by (simp [conjP, addOP])) ?_
  refine sxb hX [.r 22] [.F] 4000 rfl (by (simp [conjP, addOP])) ?_
  refine sxb hX [.r 22] [.F] 4000 rfl (by (simp [conjP, addOP])) ?_
  refine sxb hX [.r 22] [.F] 4000 rfl (by (simp [conjP, addOP, hz6, hwa])) ?_
  (refine ss_sub hX (T' := [(5, .tt), (8, .nilslice), (10, .sbuf 1 1 0 m.length), (12, .sbuf 2 1 0 z.length)]) (H' := fH_nmn m z) [0, 1, 2] rfl rfl rfl rfl (by (repeat' (first | exact rfl | exact trivial | exact sim_refl _ | refine And.intro ?_ ?_))) (by (repeat' (first | exact rfl | exact trivial | exact sim_refl _ | refine And.intro ?_ ?_))) (by (repeat' (first | exact rfl | exact trivial | exact sim_refl _ | refine And.intro ?_ ?_))) (by (repeat' (first | exact rfl | exact trivial | exact sim_refl _ | refine And.intro ?_ ?_))) ?_; exact nx)

def fT_lmn (l : List Int) (m : List Int) (z : List Int) : List (Nat × SV) := [(5, .tt), (8, .sbuf 1 1 0 l.length), (9, .niliface), (10, .sbuf 2 1 0 m.length), (11, .niliface), (12, .sbuf 3 1 0 z.length), (13, .niliface)]
def fH_lmn (l : List Int) (m : List Int) (z : List Int) : List HE := [pinE RTV, IB l, IB m, IB z]
set_option maxHeartbeats 16000000 in
theorem ft_lmn {l : List Int} {m : List Int} {z : List Int} {Wl : List Int} {rM : HR} {h0 : Nat} (hz1 : z.length = l.length + m.length) (hz2 : z.Pairwise (· < ·)) (hz3 : ∀ x ∈ z, x ∈ l ∨ x ∈ m) (hz4 : z.length ≤ 24) {ρ : Nat → Nat × Nat} {w : World} :
    SS (hXHh Wl (.ok (some l)) (.ok (some m)) (.ok (some z)) rM h0) (At ρ w) (Is .tt [pinE RTV]) ⟨[], [], Tryd.f6, Tryd.f6.ntmps, [pinE RTV], contF Tryd.f6 15 [], fT_lmn l m z, fH_lmn l m z⟩ := by
  have hX := hXHh Wl (.ok (some l)) (.ok (some m)) (.ok (some z)) rM h0
  have hl6 : l.length < 1000000 := by omega
  have hm6 : m.length < 1000000 := by omega
  have hz5 : (z.length : Int) = (l.length : Int) + (m.length : Int) := by omega
  have hl7 : l.length ≤ 24 := by omega
  have hm7 : m.length ≤ 24 := by omega
  have nx : SS (hXHh Wl (.ok (some l)) (.ok (some m)) (.ok (some z)) rM h0) (At ρ w) (Is .tt [pinE RTV]) ⟨[], [], Tryd.f6, Tryd.f6.ntmps, [pinE RTV], contF Tryd.f6 22 [], [(5, .tt), (8, .sbuf 1 1 0 l.length), (10, .sbuf 2 1 0 m.length), (12, .sbuf 3 1 0 z.length)], fH_lmn l m z⟩ := by
    refine sxb hX [.l] [] 4000 rfl trivial ?_
    refine ss_sub hX (T' := [(5, .tt), (8, .sbuf 1 1 0 l.length), (10, .sbuf 2 1 0 m.length), (12, .sbuf 3 1 0 z.length), (18, .int .i64 ((0 : Nat) : Int))]) (H' := fH_lmn l m z) [0, 1, 2, 3] rfl rfl rfl rfl (by (repeat' (first | exact rfl | exact trivial | exact sim_refl _ | refine And.intro ?_ ?_))) (by (repeat' (first | exact rfl | exact trivial | exact sim_refl _ | refine And.intro ?_ ?_))) (by (repeat' (first | exact rfl | exact trivial | exact sim_refl _ | refine And.intro ?_ ?_))) (by (repeat' (first | exact rfl | exact trivial | exact sim_refl _ | refine And.intro ?_ ?_))) ?_
    refine ss_loop hX (fun i : Nat => [(5, .tt), (8, .sbuf 1 1 0 l.length), (10, .sbuf 2 1 0 m.length), (12, .sbuf 3 1 0 z.length), (18, .int .i64 (i : Int))]) (fun _ => fH_lmn l m z) (fun i => i ≤ z.length) (fun i => z.length - i) 0 (Nat.zero_le _) ?_
    intro i hi0 I2 back
    have hi : i ≤ z.length := hi0
    by_cases h1 : i < z.length
    · have h2 : (i : Int) < (z.length : Int) := by omega
      have hmz : z.getD i 0 ∈ z := by rw [List.getD_eq_getElem?_getD, List.getElem?_eq_getElem h1]; simp
      have hor : hasL l (z.getD i 0) = true ∨ hasL m (z.getD i 0) = true := by rw [hasL_iff, hasL_iff]; exact hz3 _ hmz
      rcases i with _ | i
      · rcases hB0 : hasL l (z.getD 0 0) with _ | _
        · have hB1 : hasL m (z.getD 0 0) = true := by rcases hor with q | q; (rw [hB0] at q; simp at q); exact q
          refine sx hX [] 4000 rfl (by (simp [conjP])) ?_
          refine sx hX [.T] 4000 rfl (by (simp [conjP, addOP, h1])) ?_
          refine sx hX [.K, .K, .T, .K, .K, .K, .F, .K, .F] 4000 rfl (by (simp [-List.getD_eq_getElem?_getD, -List.length_eq_zero_iff, conjP, h1, hB0, hB1, hl6, hm6, cellOff])) ?_
          (refine back 1 ?q1 ?q2 _ _ _ (sub_of [0, 1, 2, 3] rfl rfl rfl rfl (by (repeat' (first | exact rfl | exact trivial | exact sim_refl _ | refine And.intro ?_ ?_))) (by (repeat' (first | exact rfl | exact trivial | exact sim_refl _ | refine And.intro ?_ ?_))) (by (repeat' (first | exact rfl | exact trivial | exact sim_refl _ | refine And.intro ?_ ?_))) (by (repeat' (first | exact rfl | exact trivial | exact sim_refl _ | refine And.intro ?_ ?_)))); (case q1 => exact h1); (case q2 => omega))
        · refine sx hX [] 4000 rfl (by (simp [conjP])) ?_
          refine sx hX [.T] 4000 rfl (by (simp [conjP, addOP, h1])) ?_
          refine sx hX [.K, .K, .F, .K, .F] 4000 rfl (by (simp [-List.getD_eq_getElem?_getD, -List.length_eq_zero_iff, conjP, h1, hB0, hl6, cellOff])) ?_
          (refine back 1 ?q1 ?q2 _ _ _ (sub_of [0, 1, 2, 3] rfl rfl rfl rfl (by (repeat' (first | exact rfl | exact trivial | exact sim_refl _ | refine And.intro ?_ ?_))) (by (repeat' (first | exact rfl | exact trivial | exact sim_refl _ | refine And.intro ?_ ?_))) (by (repeat' (first | exact rfl | exact trivial | exact sim_refl _ | refine And.intro ?_ ?_))) (by (repeat' (first | exact rfl | exact trivial | exact sim_refl _ | refine And.intro ?_ ?_)))); (case q1 => exact h1); (case q2 => omega))
      · have hlt := asc_get hz2 h1
        have hlt2 : ¬ z.getD (i + 1) 0 ≤ z.getD i 0 := by omega
        have hi2 : i < z.length := by omega
        have hw1 : IntKind.i64.wrap (((i + 1 : Nat) : Int) - 1) = (i : Int) := by rw [wi64 (by omega) (by omega)]; omega
        have hw2 : IntKind.i64.wrap ((i : Int)) = (i : Int) := wi64 (by omega) (by omega)
        have hp1 : (0 : Int) < ((i + 1 : Nat) : Int) := by omega
        have hi3 : (i : Int) < (z.length : Int) := by omega
        have ht1 : (((i + 1 : Nat) : Int)).toNat = i + 1 := by omega
        have ewj : IntKind.i64.wrap (((i + 1 : Nat) : Int) + 1) = ((i + 1 + 1 : Nat) : Int) := by rw [wi64 (by omega) (by omega)]; omega
        rcases hB0 : hasL l (z.getD (i + 1) 0) with _ | _
        · have hB1 : hasL m (z.getD (i + 1) 0) = true := by rcases hor with q | q; (rw [hB0] at q; simp at q); exact q
          refine sx hX [] 4000 rfl (by (simp [conjP])) ?_
          refine sx hX [.T] 4000 rfl (by (simp [conjP, addOP] <;> (first | omega | ((repeat' (refine And.intro ?_ ?_)) <;> (first | omega | exact decide_eq_false (by omega) | exact decide_eq_true (by omega)))))) ?_
          refine sx hX [.K, .K, .T, .K, .K, .K, .F, .K, .T] 4000 rfl (by (simp [-List.getD_eq_getElem?_getD, -List.length_eq_zero_iff, conjP, h1, hB0, hB1, hi2, hi3, hw2, hl6, hm6, cellOff] <;> (first | omega | ((repeat' (refine And.intro ?_ ?_)) <;> (first | omega | exact decide_eq_false (by omega) | exact decide_eq_true (by omega)))))) ?_
          refine sx hX [.F] 4000 rfl (by (simp [-List.getD_eq_getElem?_getD, -List.length_eq_zero_iff, conjP, addOP, hlt2, hw2, cellOff])) ?_
          (refine back (i + 1 + 1) ?q1 ?q2 _ _ _ (sub_of [0, 1, 2, 3] rfl rfl rfl rfl ?tt (by (repeat' (first | exact rfl | exact trivial | exact sim_refl _ | refine And.intro ?_ ?_))) (by (repeat' (first | exact rfl | exact trivial | exact sim_refl _ | refine And.intro ?_ ?_))) (by (repeat' (first | exact rfl | exact trivial | exact sim_refl _ | refine And.intro ?_ ?_)))); (case tt => refine ⟨by (repeat' (first | exact rfl | exact trivial | exact sim_refl _ | refine And.intro ?_ ?_)), by (repeat' (first | exact rfl | exact trivial | exact sim_refl _ | refine And.intro ?_ ?_)), by (repeat' (first | exact rfl | exact trivial | exact sim_refl _ | refine And.intro ?_ ?_)), by (repeat' (first | exact rfl | exact trivial | exact sim_refl _ | refine And.intro ?_ ?_)), ⟨rfl, ewj⟩, trivial⟩); (case q1 => exact h1); (case q2 => omega))
        · refine sx hX [] 4000 rfl (by (simp [conjP])) ?_
          refine sx hX [.T] 4000 rfl (by (simp [conjP, addOP] <;> (first | omega | ((repeat' (refine And.intro ?_ ?_)) <;> (first | omega | exact decide_eq_false (by omega) | exact decide_eq_true (by omega)))))) ?_
          refine sx hX [.K, .K, .F, .K, .T] 4000 rfl (by (simp [-List.getD_eq_getElem?_getD, -List.length_eq_zero_iff, conjP, h1, hB0, hi2, hi3, hw2, hl6, cellOff] <;> (first | omega | ((repeat' (refine And.intro ?_ ?_)) <;> (first | omega | exact decide_eq_false (by omega) | exact decide_eq_true (by omega)))))) ?_
          refine sx hX [.F] 4000 rfl (by (simp [-List.getD_eq_getElem?_getD, -List.length_eq_zero_iff, conjP, addOP, hlt2, hw2, cellOff])) ?_
          (refine back (i + 1 + 1) ?q1 ?q2 _ _ _ (sub_of [0, 1, 2, 3] rfl rfl rfl rfl ?tt (by (repeat' (first | exact rfl | exact trivial | exact sim_refl _ | refine And.intro ?_ ?_))) (by (repeat' (first | exact rfl | exact trivial | exact sim_refl _ | refine And.intro ?_ ?_))) (by (repeat' (first | exact rfl | exact trivial | exact sim_refl _ | refine And.intro ?_ ?_)))); (case tt => refine ⟨by (repeat' (first | exact rfl | exact trivial | exact sim_refl _ | refine And.intro ?_ ?_)), by (repeat' (first | exact rfl | exact trivial | exact sim_refl _ | refine And.intro ?_ ?_)), by (repeat' (first | exact rfl | exact trivial | exact sim_refl _ | refine And.intro ?_ ?_)), by (repeat' (first | exact rfl | exact trivial | exact sim_refl _ | refine And.intro ?_ ?_)), ⟨rfl, ewj⟩, trivial⟩); (case q1 => exact h1); (case q2 => omega))
    · have h2 : ¬ (i : Int) < (z.length : Int) := by omega
      refine sx hX [] 4000 rfl (by (simp [conjP])) ?_
      refine sx hX [.F] 4000 rfl (by (simp [conjP, addOP, h2])) ?_
      (refine ss_end hX [0] rfl rfl trivial rfl rfl rfl rfl ?vv ?hh (by (repeat' (first | exact rfl | exact trivial | exact sim_refl _ | refine And.intro ?_ ?_))) (by (repeat' (first | exact rfl | exact trivial | exact sim_refl _ | refine And.intro ?_ ?_))); (case vv => first | ((repeat' (first | exact rfl | exact trivial | exact sim_refl _ | refine And.intro ?_ ?_)); done) | (simp [tupF, SV.ren, sim, simO0]; done)); (case hh => (repeat' (first | exact rfl | exact trivial | exact sim_refl _ | refine And.intro ?_ ?_)); done))
  have hwa : IntKind.i64.wrap ((l.length : Int) + (m.length : Int)) = (l.length : Int) + (m.length : Int) := wi64 (by omega) (by omega)
  have hz6 : (z.length : Int) = (l.length : Int) + (m.length : Int) := hz5
  refine sxb hX [.r 22] [] 4000 rfl (by (simp [conjP])) ?_
  refine sxb hX [.r 22] [.T] 4000 rfl (by (simp [conjP, addOP])) ?_
  refine sxb hX [.r 22] [.F] 4000 rfl (by (simp [conjP, addOP])) ?_
  refine sxb hX [.r 22] [.F] 4000 rfl (by (simp [conjP, addOP])) ?_
  refine sxb hX [.r 22] [.F] 4000 rfl (by (simp [conjP, addOP, hz6, hwa])) ?_
  (refine ss_sub hX (T' := [(5, .tt), (8, .sbuf 1 1 0 l.length), (10, .sbuf 2 1 0 m.length), (12, .sbuf 3 1 0 z.length)]) (H' := fH_lmn l m z) [0, 1, 2, 3] rfl rfl rfl rfl (by (repeat' (first | exact rfl | exact trivial | exact sim_refl _ | refine And.intro ?_ ?_))) (by (repeat' (first | exact rfl | exact trivial | exact sim_refl _ | refine And.intro ?_ ?_))) (by (repeat' (first | exact rfl | exact trivial | exact sim_refl _ | refine And.intro ?_ ?_))) (by (repeat' (first | exact rfl | exact trivial | exact sim_refl _ | refine And.intro ?_ ?_))) ?_; exact nx)

def fT_nbn (_e _p : Int) : List (Nat × SV) := [(5, .tt), (8, .nilslice), (9, .niliface), (10, .nilslice), (11, .iface 93 (.ptr 1 0)), (12, .nilslice), (13, .iface 93 (.ptr 2 0))]
def fH_nbn (e p : Int) : List HE := [pinE RTV, atO e p, atO e p]
set_option maxHeartbeats 16000000 in
theorem ft_nbn {e p : Int} {Wl : List Int} {rM : HR} {h0 : Nat} (he : e = 10 ∨ e = 16) {ρ : Nat → Nat × Nat} {w : World} :
    SS (hXHh Wl (.ok none) (.bad e p) (.bad e p) rM h0) (At ρ w) (Is .tt [pinE RTV]) ⟨[], [], Tryd.f6, Tryd.f6.ntmps, [pinE RTV], contF Tryd.f6 15 [], fT_nbn e p, fH_nbn e p⟩ := by
  have hX := hXHh Wl (.ok none) (.bad e p) (.bad e p) rM h0
  have he2 : ¬ e = 0 := by omega
  refine sx hX [] 4000 rfl (by (simp [conjP])) ?_
  refine sx hX [.T] 4000 rfl (by (simp [conjP])) ?_
  refine sx hX [.T] 4000 rfl (by (simp [conjP, he2])) ?_
  refine sx hX [.T] 4000 rfl (by (simp [conjP, addOP])) ?_
  (refine ss_end hX [0] rfl rfl trivial rfl rfl rfl rfl ?vv ?hh (by (repeat' (first | exact rfl | exact trivial | exact sim_refl _ | refine And.intro ?_ ?_))) (by (repeat' (first | exact rfl | exact trivial | exact sim_refl _ | refine And.intro ?_ ?_))); (case vv => first | ((repeat' (first | exact rfl | exact trivial | exact sim_refl _ | refine And.intro ?_ ?_)); done) | (simp [tupF, SV.ren, sim, simO0]; done)); (case hh => (repeat' (first | exact rfl | exact trivial | exact sim_refl _ | refine And.intro ?_ ?_)); done))

def fT_lbn (l : List Int) (_e _p : Int) : List (Nat × SV) := [(5, .tt), (8, .sbuf 1 1 0 l.length), (9, .niliface), (10, .nilslice), (11, .iface 93 (.ptr 2 0)), (12, .nilslice), (13, .iface 93 (.ptr 3 0))]
def fH_lbn (l : List Int) (e p : Int) : List HE := [pinE RTV, IB l, atO e p, atO e p]
set_option maxHeartbeats 16000000 in
theorem ft_lbn {l : List Int} {e p : Int} {Wl : List Int} {rM : HR} {h0 : Nat} (he : e = 10 ∨ e = 16) {ρ : Nat → Nat × Nat} {w : World} :
    SS (hXHh Wl (.ok (some l)) (.bad e p) (.bad e p) rM h0) (At ρ w) (Is .tt [pinE RTV]) ⟨[], [], Tryd.f6, Tryd.f6.ntmps, [pinE RTV], contF Tryd.f6 15 [], fT_lbn l e p, fH_lbn l e p⟩ := by
  have hX := hXHh Wl (.ok (some l)) (.bad e p) (.bad e p) rM h0
  have he2 : ¬ e = 0 := by omega
  refine sx hX [] 4000 rfl (by (simp [conjP])) ?_
  refine sx hX [.T] 4000 rfl (by (simp [conjP])) ?_
  refine sx hX [.T] 4000 rfl (by (simp [conjP, he2])) ?_
  refine sx hX [.T] 4000 rfl (by (simp [conjP, addOP])) ?_
  (refine ss_end hX [0] rfl rfl trivial rfl rfl rfl rfl ?vv ?hh (by (repeat' (first | exact rfl | exact trivial | exact sim_refl _ | refine And.intro ?_ ?_))) (by (repeat' (first | exact rfl | exact trivial | exact sim_refl _ | refine And.intro ?_ ?_))); (case vv => first | ((repeat' (first | exact rfl | exact trivial | exact sim_refl _ | refine And.intro ?_ ?_)); done) | (simp [tupF, SV.ren, sim, simO0]; done)); (case hh => (repeat' (first | exact rfl | exact trivial | exact sim_refl _ | refine And.intro ?_ ?_)); done))

def fT_bnn (_e _p : Int) : List (Nat × SV) := [(5, .tt), (8, .nilslice), (9, .iface 93 (.ptr 1 0)), (10, .nilslice), (11, .niliface), (12, .nilslice), (13, .iface 93 (.ptr 2 0))]
def fH_bnn (e p : Int) : List HE := [pinE RTV, atO e p, atO e p]
set_option maxHeartbeats 16000000 in
theorem ft_bnn {e p : Int} {Wl : List Int} {rM : HR} {h0 : Nat} (he : e = 10 ∨ e = 16) {ρ : Nat → Nat × Nat} {w : World} :
    SS (hXHh Wl (.bad e p) (.ok none) (.bad e p) rM h0) (At ρ w) (Is .tt [pinE RTV]) ⟨[], [], Tryd.f6, Tryd.f6.ntmps, [pinE RTV], contF Tryd.f6 15 [], fT_bnn e p, fH_bnn e p⟩ := by
  have hX := hXHh Wl (.bad e p) (.ok none) (.bad e p) rM h0
  have he2 : ¬ e = 0 := by omega
  refine sx hX [] 4000 rfl (by (simp [conjP])) ?_
  refine sx hX [.F] 4000 rfl (by (simp [conjP, addOP, he2])) ?_
  refine sx hX [.T] 4000 rfl (by (simp [conjP, he2])) ?_
  refine sx hX [.T] 4000 rfl (by (simp [conjP, addOP])) ?_
  (refine ss_end hX [0] rfl rfl trivial rfl rfl rfl rfl ?vv ?hh (by (repeat' (first | exact rfl | exact trivial | exact sim_refl _ | refine And.intro ?_ ?_))) (by (repeat' (first | exact rfl | exact trivial | exact sim_refl _ | refine And.intro ?_ ?_))); (case vv => first | ((repeat' (first | exact rfl | exact trivial | exact sim_refl _ | refine And.intro ?_ ?_)); done) | (simp [tupF, SV.ren, sim, simO0]; done)); (case hh => (repeat' (first | exact rfl | exact trivial | exact sim_refl _ | refine And.intro ?_ ?_)); done))

def fT_bmn (m : List Int) (_e _p : Int) : List (Nat × SV) := [(5, .tt), (8, .nilslice), (9, .iface 93 (.ptr 1 0)), (10, .sbuf 2 1 0 m.length), (11, .niliface), (12, .nilslice), (13, .iface 93 (.ptr 3 0))]
def fH_bmn (m : List Int) (e p : Int) : List HE := [pinE RTV, atO e p, IB m, atO e p]
set_option maxHeartbeats 16000000 in
theorem ft_bmn {m : List Int} {e p : Int} {Wl : List Int} {rM : HR} {h0 : Nat} (he : e = 10 ∨ e = 16) {ρ : Nat → Nat × Nat} {w : World} :
    SS (hXHh Wl (.bad e p) (.ok (some m)) (.bad e p) rM h0) (At ρ w) (Is .tt [pinE RTV]) ⟨[], [], Tryd.f6, Tryd.f6.ntmps, [pinE RTV], contF Tryd.f6 15 [], fT_bmn m e p, fH_bmn m e p⟩ := by
  have hX := hXHh Wl (.bad e p) (.ok (some m)) (.bad e p) rM h0
  have he2 : ¬ e = 0 := by omega
  refine sx hX [] 4000 rfl (by (simp [conjP])) ?_
  refine sx hX [.F] 4000 rfl (by (simp [conjP, addOP, he2])) ?_
  refine sx hX [.T] 4000 rfl (by (simp [conjP, he2])) ?_
  refine sx hX [.T] 4000 rfl (by (simp [conjP, addOP])) ?_
  (refine ss_end hX [0] rfl rfl trivial rfl rfl rfl rfl ?vv ?hh (by (repeat' (first | exact rfl | exact trivial | exact sim_refl _ | refine And.intro ?_ ?_))) (by (repeat' (first | exact rfl | exact trivial | exact sim_refl _ | refine And.intro ?_ ?_))); (case vv => first | ((repeat' (first | exact rfl | exact trivial | exact sim_refl _ | refine And.intro ?_ ?_)); done) | (simp [tupF, SV.ren, sim, simO0]; done)); (case hh => (repeat' (first | exact rfl | exact trivial | exact sim_refl _ | refine And.intro ?_ ?_)); done))

def fT_bcn (_e _p : Int) (_e2 _p2 : Int) : List (Nat × SV) := [(5, .tt), (8, .nilslice), (9, .iface 93 (.ptr 1 0)), (10, .nilslice), (11, .iface 93 (.ptr 2 0)), (12, .nilslice), (13, .iface 93 (.ptr 3 0))]
def fH_bcn (e p : Int) (e2 p2 : Int) : List HE := [pinE RTV, atO e p, atO e2 p2, atO e p]
set_option maxHeartbeats 16000000 in
theorem ft_bcn {e p : Int} {e2 p2 : Int} {Wl : List Int} {rM : HR} {h0 : Nat} (he : e = 10 ∨ e = 16) {ρ : Nat → Nat × Nat} {w : World} :
    SS (hXHh Wl (.bad e p) (.bad e2 p2) (.bad e p) rM h0) (At ρ w) (Is .tt [pinE RTV]) ⟨[], [], Tryd.f6, Tryd.f6.ntmps, [pinE RTV], contF Tryd.f6 15 [], fT_bcn e p e2 p2, fH_bcn e p e2 p2⟩ := by
  have hX := hXHh Wl (.bad e p) (.bad e2 p2) (.bad e p) rM h0
  have he2 : ¬ e = 0 := by omega
  refine sx hX [] 4000 rfl (by (simp [conjP])) ?_
  refine sx hX [.F] 4000 rfl (by (simp [conjP, addOP, he2])) ?_
  refine sx hX [.T] 4000 rfl (by (simp [conjP, he2])) ?_
  refine sx hX [.T] 4000 rfl (by (simp [conjP, addOP])) ?_
  (refine ss_end hX [0] rfl rfl trivial rfl rfl rfl rfl ?vv ?hh (by (repeat' (first | exact rfl | exact trivial | exact sim_refl _ | refine And.intro ?_ ?_))) (by (repeat' (first | exact rfl | exact trivial | exact sim_refl _ | refine And.intro ?_ ?_))); (case vv => first | ((repeat' (first | exact rfl | exact trivial | exact sim_refl _ | refine And.intro ?_ ?_)); done) | (simp [tupF, SV.ren, sim, simO0]; done)); (case hh => (repeat' (first | exact rfl | exact trivial | exact sim_refl _ | refine And.intro ?_ ?_)); done))
end Go.Proofs.YtfdkaakllceebaaDoor
