/- A row with a number more, or without it: a contract. -/
import Derived.Test.YtkkddjchkkaagaaGreatDoorHas
import Derived.Test.YtkkddjchkkaagaaGreatDoorScript
import Derived.Test.YtkkddjchkkaagaaGreatDoorHyc
import Derived.Test.YtkkddjchkkaagaaGreatDoorEpochsLaw
namespace Go.Proofs.YtkkddjchkkaagaaGreatDoor
open Go Go.Hx
set_option maxRecDepth 8000
/-- What is kept of the first ones. -/
def fO (l : List Int) (n : Int) : Nat → Option (List Int)
  | 0 => none
  | i + 1 => if l.getD i 0 = n then fO l n i else some (lst (fO l n i) ++ [l.getD i 0])
def tgO (l : List Int) (n : Int) : Option (List Int) := if (lst (fO l n l.length)).length = l.length then some (lst (fO l n l.length) ++ [n]) else fO l n l.length
theorem fO_len {l : List Int} {n : Int} : ∀ {i : Nat}, (lst (fO l n i)).length ≤ i
  | 0 => by simp [fO, lst]
  | i + 1 => by
    unfold fO
    split
    · have := fO_len (l := l) (n := n) (i := i); omega
    · have := fO_len (l := l) (n := n) (i := i)
      simp [lst]
      exact this
theorem clW {P : Prop} (h : P := by repeat' (first | exact rfl | exact trivial | exact sim_refl _ | exact simO_refl _ | exact subE_same rfl ren_slE | exact sim_slVr rfl | assumption | refine And.intro ?_ ?_)) : P := h
theorem clWk {P : Prop} (h : P := by repeat' (first | exact rfl | exact trivial | exact okE_slE | exact okP_slV rfl | refine And.intro ?_ ?_)) : P := h
def tgT (l : List Int) (n : Int) (q : Option (List Int)) (i : Nat) : List (Nat × SV) := [(0, .sbuf 0 1 0 l.length), (1, .int .i64 n), (5, slV q 1), (6, .int .i64 (i : Int))]
def tgH (l : List Int) (q : Option (List Int)) : List HE := [.obj (.buf .i64 l 1 3), slE q .i64 3]
section
variable {l : List Int} {n : Int} {ρ : Nat → Nat × Nat} {w : World} {I : Act → World → Prop}
abbrev TGJ (l : List Int) (n : Int) (q : Option (List Int)) (i : Nat) (ρ : Nat → Nat × Nat) (w : World) (I : Act → World → Prop) (R : SV → List HE → Prop) : Prop :=
  ∀ cs TT H, Sub (FEnv Tryz.prog XH0.TE hXH0.te Tryz.f70 Tryz.f70.ntmps [.obj (.buf .i64 l 1 3)] R ρ w) TT H (tgT l n q (i + 1)) (tgH l q) →
    SS hXH0 (At ρ w) R ⟨cs, [], Tryz.f70, Tryz.f70.ntmps, [.obj (.buf .i64 l 1 3)], downLp (contF Tryz.f70 3 [I]), TT, H⟩
set_option maxHeartbeats 4000000 in
theorem tgn1 {R : SV → List HE → Prop} {i : Nat} (hi : i < l.length) (hl : l.length < 1000000) (he : l.getD i 0 = n) (J : TGJ l n (none) i ρ w I R) :
    SS hXH0 (At ρ w) R ⟨[], [], Tryz.f70, Tryz.f70.ntmps, [.obj (.buf .i64 l 1 3)], contF Tryz.f70 3 [I], tgT l n (none) i, tgH l (none)⟩ := by
  have hi1 : (i : Int) < (l.length : Int) := by omega
  have ewi : IntKind.i64.wrap ((i : Int) + 1) = ((i + 1 : Nat) : Int) := by rw [wi64 (by omega) (by omega)]; omega
  have eco : cellOff i 1 0 = i := by simp [cellOff]
  have hX := hXH0
  dsimp only [tgT, tgH, slV, slE]
  refine sx hX [] 4000 rfl (by (simp [-List.getD_eq_getElem?_getD, -List.length_eq_zero_iff, conjP])) ?_
  refine sx hX [.T] 4000 rfl (by (simp [-List.getD_eq_getElem?_getD, -List.length_eq_zero_iff, conjP, hi1, eco, Int.toNat_natCast] <;> (first | omega | ((repeat' (refine And.intro ?_ ?_)) <;> (first | omega | exact decide_eq_false (by omega) | exact decide_eq_true (by omega)))))) ?_
  refine sx hX [.F] 4000 rfl (by (simp [-List.getD_eq_getElem?_getD, -List.length_eq_zero_iff, conjP, addOP, he, eco, Int.toNat_natCast])) ?_
  (refine J _ _ _ (sub_of [0, 1] rfl rfl rfl rfl ?tt ?hh ?ot ?ok); (case tt => (try simp only [ewi, eco, Int.toNat_natCast]); exact clW); (case hh => (try simp only [eco, Int.toNat_natCast]); exact clW); (case ot => exact clWk); (case ok => exact clWk))
set_option maxHeartbeats 4000000 in
theorem tgn0 {R : SV → List HE → Prop} {i : Nat} (hi : i < l.length) (hl : l.length < 1000000) (he : ¬ l.getD i 0 = n) (J : TGJ l n (some ([] ++ [l.getD i 0])) i ρ w I R) :
    SS hXH0 (At ρ w) R ⟨[], [], Tryz.f70, Tryz.f70.ntmps, [.obj (.buf .i64 l 1 3)], contF Tryz.f70 3 [I], tgT l n (none) i, tgH l (none)⟩ := by
  have hi1 : (i : Int) < (l.length : Int) := by omega
  have ewi : IntKind.i64.wrap ((i : Int) + 1) = ((i + 1 : Nat) : Int) := by rw [wi64 (by omega) (by omega)]; omega
  have eco : cellOff i 1 0 = i := by simp [cellOff]
  have hX := hXH0
  dsimp only [tgT, tgH, slV, slE]
  refine sx hX [] 4000 rfl (by (simp [-List.getD_eq_getElem?_getD, -List.length_eq_zero_iff, conjP])) ?_
  refine sx hX [.T] 4000 rfl (by (simp [-List.getD_eq_getElem?_getD, -List.length_eq_zero_iff, conjP, hi1, eco, Int.toNat_natCast] <;> (first | omega | ((repeat' (refine And.intro ?_ ?_)) <;> (first | omega | exact decide_eq_false (by omega) | exact decide_eq_true (by omega)))))) ?_
  refine sx hX [.T] 4000 rfl (by (simp [-List.getD_eq_getElem?_getD, -List.length_eq_zero_iff, conjP, hi1, he, eco, Int.toNat_natCast] <;> (first | omega | ((repeat' (refine And.intro ?_ ?_)) <;> (first | omega | exact decide_eq_false (by omega) | exact decide_eq_true (by omega)))))) ?_
  (refine J _ _ _ (sub_of [0, 3] rfl rfl rfl rfl ?tt ?hh ?ot ?ok); (case tt => (try simp only [ewi, eco, Int.toNat_natCast]); exact clW); (case hh => (try simp only [eco, Int.toNat_natCast]); exact clW); (case ot => exact clWk); (case ok => exact clWk))
set_option maxHeartbeats 4000000 in
theorem tgs1 {R : SV → List HE → Prop} {i : Nat} {a : List Int} (_ha : a.length < 1000000) (hi : i < l.length) (hl : l.length < 1000000) (he : l.getD i 0 = n) (J : TGJ l n (some a) i ρ w I R) :
    SS hXH0 (At ρ w) R ⟨[], [], Tryz.f70, Tryz.f70.ntmps, [.obj (.buf .i64 l 1 3)], contF Tryz.f70 3 [I], tgT l n (some a) i, tgH l (some a)⟩ := by
  have hi1 : (i : Int) < (l.length : Int) := by omega
  have ewi : IntKind.i64.wrap ((i : Int) + 1) = ((i + 1 : Nat) : Int) := by rw [wi64 (by omega) (by omega)]; omega
  have eco : cellOff i 1 0 = i := by simp [cellOff]
  have hX := hXH0
  dsimp only [tgT, tgH, slV, slE]
  refine sx hX [] 4000 rfl (by (simp [-List.getD_eq_getElem?_getD, -List.length_eq_zero_iff, conjP])) ?_
  refine sx hX [.T] 4000 rfl (by (simp [-List.getD_eq_getElem?_getD, -List.length_eq_zero_iff, conjP, hi1, eco, Int.toNat_natCast] <;> (first | omega | ((repeat' (refine And.intro ?_ ?_)) <;> (first | omega | exact decide_eq_false (by omega) | exact decide_eq_true (by omega)))))) ?_
  refine sx hX [.F] 4000 rfl (by (simp [-List.getD_eq_getElem?_getD, -List.length_eq_zero_iff, conjP, addOP, he, eco, Int.toNat_natCast])) ?_
  (refine J _ _ _ (sub_of [0, 1] rfl rfl rfl rfl ?tt ?hh ?ot ?ok); (case tt => (try simp only [ewi, eco, Int.toNat_natCast]); exact clW); (case hh => (try simp only [eco, Int.toNat_natCast]); exact clW); (case ot => exact clWk); (case ok => exact clWk))
set_option maxHeartbeats 4000000 in
theorem tgs0 {R : SV → List HE → Prop} {i : Nat} {a : List Int} (ha : a.length < 1000000) (hi : i < l.length) (hl : l.length < 1000000) (he : ¬ l.getD i 0 = n) (J : TGJ l n (some (a ++ [l.getD i 0])) i ρ w I R) :
    SS hXH0 (At ρ w) R ⟨[], [], Tryz.f70, Tryz.f70.ntmps, [.obj (.buf .i64 l 1 3)], contF Tryz.f70 3 [I], tgT l n (some a) i, tgH l (some a)⟩ := by
  have hi1 : (i : Int) < (l.length : Int) := by omega
  have ewi : IntKind.i64.wrap ((i : Int) + 1) = ((i + 1 : Nat) : Int) := by rw [wi64 (by omega) (by omega)]; omega
  have eco : cellOff i 1 0 = i := by simp [cellOff]
  have e1 : (a ++ [l.getD i 0]).length = a.length + 1 := by simp
  have e2 := e1.symm
  have hX := hXH0
  dsimp only [tgT, tgH, slV, slE]
  refine sx hX [] 4000 rfl (by (simp [-List.getD_eq_getElem?_getD, -List.length_eq_zero_iff, conjP])) ?_
  refine sx hX [.T] 4000 rfl (by (simp [-List.getD_eq_getElem?_getD, -List.length_eq_zero_iff, conjP, hi1, eco, Int.toNat_natCast] <;> (first | omega | ((repeat' (refine And.intro ?_ ?_)) <;> (first | omega | exact decide_eq_false (by omega) | exact decide_eq_true (by omega)))))) ?_
  refine sx hX [.T] 4000 rfl (by (simp [-List.getD_eq_getElem?_getD, -List.length_eq_zero_iff, conjP, hi1, he, eco, Int.toNat_natCast] <;> (first | omega | ((repeat' (refine And.intro ?_ ?_)) <;> (first | omega | exact decide_eq_false (by omega) | exact decide_eq_true (by omega)))))) ?_
  (refine J _ _ _ (sub_of [0, 3] rfl rfl rfl rfl ?tt ?hh ?ot ?ok); (case tt => (try simp only [ewi, eco, Int.toNat_natCast]); exact clW); (case hh => (try simp only [eco, Int.toNat_natCast]); exact clW); (case ot => exact clWk); (case ok => exact clWk))
set_option maxHeartbeats 4000000 in
theorem ten1 (he : 0 = l.length) (_hl : l.length < 1000000) :
    SS hXH0 (At ρ w) (Is (slV (some ([] ++ [n])) 1) [.obj (.buf .i64 l 1 3), slE (some ([] ++ [n])) .i64 3]) ⟨[], [], Tryz.f70, Tryz.f70.ntmps, [.obj (.buf .i64 l 1 3)], contF Tryz.f70 3 [I], tgT l n (none) l.length, tgH l (none)⟩ := by
  have hi1 : ¬ (l.length : Int) < (l.length : Int) := by omega
  have he' : ((0 : Nat) : Int) = (l.length : Int) := by omega
  have he2 : (0 : Int) = (l.length : Int) := by omega
  have hX := hXH0
  dsimp only [tgT, tgH, slV, slE]
  refine sx hX [] 4000 rfl (by (simp [-List.getD_eq_getElem?_getD, -List.length_eq_zero_iff, conjP])) ?_
  refine sx hX [.F] 4000 rfl (by (simp [-List.getD_eq_getElem?_getD, -List.length_eq_zero_iff, conjP, addOP, hi1])) ?_
  refine sx hX [.T] 4000 rfl (by (simp [-List.getD_eq_getElem?_getD, -List.length_eq_zero_iff, conjP, he2])) ?_
  (refine ss_end hX [0, 3] rfl rfl trivial rfl rfl rfl rfl ?tt ?hh ?ot ?ok; (case tt => exact clW); (case hh => exact clW); (case ot => exact clWk); (case ok => exact clWk))
set_option maxHeartbeats 4000000 in
theorem ten0 (he : ¬ 0 = l.length) (_hl : l.length < 1000000) :
    SS hXH0 (At ρ w) (Is (slV (none) 1) [.obj (.buf .i64 l 1 3), slE (none) .i64 3]) ⟨[], [], Tryz.f70, Tryz.f70.ntmps, [.obj (.buf .i64 l 1 3)], contF Tryz.f70 3 [I], tgT l n (none) l.length, tgH l (none)⟩ := by
  have hi1 : ¬ (l.length : Int) < (l.length : Int) := by omega
  have he' : ¬ ((0 : Nat) : Int) = (l.length : Int) := by omega
  have he2 : ¬ (0 : Int) = (l.length : Int) := by omega
  have hX := hXH0
  dsimp only [tgT, tgH, slV, slE]
  refine sx hX [] 4000 rfl (by (simp [-List.getD_eq_getElem?_getD, -List.length_eq_zero_iff, conjP])) ?_
  refine sx hX [.F] 4000 rfl (by (simp [-List.getD_eq_getElem?_getD, -List.length_eq_zero_iff, conjP, addOP, hi1])) ?_
  refine sx hX [.F] 4000 rfl (by (simp [-List.getD_eq_getElem?_getD, -List.length_eq_zero_iff, conjP, addOP, he2])) ?_
  (refine ss_end hX [0, 1] rfl rfl trivial rfl rfl rfl rfl ?tt ?hh ?ot ?ok; (case tt => exact clW); (case hh => exact clW); (case ot => exact clWk); (case ok => exact clWk))
set_option maxHeartbeats 4000000 in
theorem tes1 {a : List Int} (ha : a.length < 1000000) (he : a.length = l.length) (_hl : l.length < 1000000) :
    SS hXH0 (At ρ w) (Is (slV (some (a ++ [n])) 1) [.obj (.buf .i64 l 1 3), slE (some (a ++ [n])) .i64 3]) ⟨[], [], Tryz.f70, Tryz.f70.ntmps, [.obj (.buf .i64 l 1 3)], contF Tryz.f70 3 [I], tgT l n (some a) l.length, tgH l (some a)⟩ := by
  have hi1 : ¬ (l.length : Int) < (l.length : Int) := by omega
  have e1 : (a ++ [n]).length = a.length + 1 := by simp
  have e2 := e1.symm
  have he' : ((a.length : Nat) : Int) = (l.length : Int) := by omega
  have hX := hXH0
  dsimp only [tgT, tgH, slV, slE]
  refine sx hX [] 4000 rfl (by (simp [-List.getD_eq_getElem?_getD, -List.length_eq_zero_iff, conjP])) ?_
  refine sx hX [.F] 4000 rfl (by (simp [-List.getD_eq_getElem?_getD, -List.length_eq_zero_iff, conjP, addOP, hi1])) ?_
  refine sx hX [.T] 4000 rfl (by (simp [-List.getD_eq_getElem?_getD, -List.length_eq_zero_iff, conjP, he'] <;> (first | omega | ((repeat' (refine And.intro ?_ ?_)) <;> (first | omega | exact decide_eq_false (by omega) | exact decide_eq_true (by omega)))))) ?_
  (refine ss_end hX [0, 3] rfl rfl trivial rfl rfl rfl rfl ?tt ?hh ?ot ?ok; (case tt => exact clW); (case hh => exact clW); (case ot => exact clWk); (case ok => exact clWk))
set_option maxHeartbeats 4000000 in
theorem tes0 {a : List Int} (_ha : a.length < 1000000) (he : ¬ a.length = l.length) (_hl : l.length < 1000000) :
    SS hXH0 (At ρ w) (Is (slV (some a) 1) [.obj (.buf .i64 l 1 3), slE (some a) .i64 3]) ⟨[], [], Tryz.f70, Tryz.f70.ntmps, [.obj (.buf .i64 l 1 3)], contF Tryz.f70 3 [I], tgT l n (some a) l.length, tgH l (some a)⟩ := by
  have hi1 : ¬ (l.length : Int) < (l.length : Int) := by omega
  have he' : ¬ ((a.length : Nat) : Int) = (l.length : Int) := by omega
  have hX := hXH0
  dsimp only [tgT, tgH, slV, slE]
  refine sx hX [] 4000 rfl (by (simp [-List.getD_eq_getElem?_getD, -List.length_eq_zero_iff, conjP])) ?_
  refine sx hX [.F] 4000 rfl (by (simp [-List.getD_eq_getElem?_getD, -List.length_eq_zero_iff, conjP, addOP, hi1])) ?_
  refine sx hX [.F] 4000 rfl (by (simp [-List.getD_eq_getElem?_getD, -List.length_eq_zero_iff, conjP, addOP, he'])) ?_
  (refine ss_end hX [0, 1] rfl rfl trivial rfl rfl rfl rfl ?tt ?hh ?ot ?ok; (case tt => exact clW); (case hh => exact clW); (case ot => exact clWk); (case ok => exact clWk))
end
set_option maxHeartbeats 4000000 in
theorem tog_fn (l : List Int) (n : Int) (hl : l.length < 1000) : Gives Tryz.prog 70 [.sbuf 0 1 0 l.length, .int .i64 n] [.obj (.buf .i64 l 1 3)] (Is (slV (tgO l n) 1) [.obj (.buf .i64 l 1 3), slE (tgO l n) .i64 3]) := by
  have hX := hXH0
  refine gives_x hX (fn := Tryz.f70) rfl rfl rfl rfl fun ρ w => ?_
  refine sxb hX [.l] [] 4000 rfl trivial ?_
  refine ss_sub hX (T' := tgT l n (fO l n 0) 0) (H' := tgH l (fO l n 0)) [0, 1] rfl rfl rfl rfl (by exact clW) (by exact clW) (by exact clWk) (by exact clWk) ?_
  refine ss_loop hX (fun i => tgT l n (fO l n i) i) (fun i => tgH l (fO l n i)) (fun i => i ≤ l.length) (fun i => l.length - i) 0 (Nat.zero_le _) ?_
  intro i hi I back
  have hi : i ≤ l.length := hi
  have hln := fO_len (l := l) (n := n) (i := i)
  refine sxb hX [.r 3] [] 100 rfl trivial ?_
  by_cases hlt : i < l.length
  · have bkk : ∀ q, fO l n (i + 1) = q → TGJ l n q i ρ w I _ := fun q e cs TT H hsub => back (i + 1) (by show i + 1 ≤ l.length; omega) (by show l.length - (i + 1) < l.length - i; omega) cs TT H (by rw [e]; exact hsub)
    by_cases he : l.getD i 0 = n
    · rcases hq : fO l n i with _ | a
      · exact tgn1 hlt (by omega) he (bkk _ (by simp only [fO]; rw [if_pos he, hq]))
      · rw [hq] at hln
        exact tgs1 (by have hln : a.length ≤ i := hln; omega) hlt (by omega) he (bkk _ (by simp only [fO]; rw [if_pos he, hq]))
    · rcases hq : fO l n i with _ | a
      · exact tgn0 hlt (by omega) he (bkk _ (by simp only [fO]; rw [if_neg he, hq]; rfl))
      · rw [hq] at hln
        exact tgs0 (by have hln : a.length ≤ i := hln; omega) hlt (by omega) he (bkk _ (by simp only [fO]; rw [if_neg he, hq]; rfl))
  · obtain rfl : i = l.length := by omega
    unfold tgO
    rcases hq : fO l n l.length with _ | a
    · by_cases he : 0 = l.length
      · rw [if_pos (by show 0 = l.length; exact he)]; exact ten1 he (by omega)
      · rw [if_neg (by show ¬ 0 = l.length; exact he)]; exact ten0 he (by omega)
    · rw [hq] at hln
      have hln : a.length ≤ l.length := hln
      by_cases he : a.length = l.length
      · rw [if_pos (by show a.length = l.length; exact he)]; exact tes1 (by omega) he (by omega)
      · rw [if_neg (by show ¬ a.length = l.length; exact he)]; exact tes0 (by omega) he (by omega)
theorem tog_nil (n : Int) : Gives Tryz.prog 70 [.nilslice, .int .i64 n] [] (Is (.sbuf 0 1 0 1) [.obj (.buf .i64 [n] 1 3)]) := by
  refine gives_x hXR (fn := Tryz.f70) rfl rfl rfl rfl fun ρ w => ?_
  refine sx hXR [] 4000 rfl (by (simp [-List.getD_eq_getElem?_getD, -List.length_eq_zero_iff, conjP])) ?_
  refine sx hXR [.F] 4000 rfl (by (simp [-List.getD_eq_getElem?_getD, -List.length_eq_zero_iff, conjP, addOP])) ?_
  refine sx hXR [.T] 4000 rfl (by (simp [-List.getD_eq_getElem?_getD, -List.length_eq_zero_iff, conjP])) ?_
  (refine ss_end hXR [1] rfl rfl trivial rfl rfl rfl rfl ?tt ?hh ?ot ?ok; (case tt => exact clW); (case hh => exact clW); (case ot => exact clWk); (case ok => exact clWk))
end Go.Proofs.YtkkddjchkkaagaaGreatDoor

/- The directory is a map: what took effect, one behind the other. -/
namespace Go.Proofs.YtkkddjchkkaagaaGreatDoor
open Go Go.Hx
set_option maxRecDepth 8000
/-- Is the key at one of the places? -/
def inW (T : Nat) (W : List Int) (k : Int) : Prop := ∃ p, p < T ∧ isK (W.getD (eP p) 0) = true ∧ W.getD (eP p) 0 / 4 = k
theorem fO_mem {l : List Int} {n k : Int} : ∀ {i : Nat}, i ≤ l.length → (k ∈ lst (fO l n i) ↔ k ≠ n ∧ k ∈ l.take i)
  | 0, _ => by simp [fO, lst]
  | i + 1, h => by
    have ih := fO_mem (l := l) (n := n) (k := k) (i := i) (by omega)
    have e : l[i]? = some (l.getD i 0) := by rw [List.getD_eq_getElem?_getD, List.getElem?_eq_getElem (by omega)]; rfl
    rw [List.take_add_one, e]
    unfold fO
    split
    · rename_i g
      rw [ih]
      simp only [Option.toList, List.mem_append, List.mem_singleton]
      constructor
      · exact fun q => ⟨q.1, .inl q.2⟩
      · rintro ⟨q, q2 | q2⟩
        · exact ⟨q, q2⟩
        · exact absurd (q2.trans g) q
    · rename_i g
      have : lst (some (lst (fO l n i) ++ [l.getD i 0])) = lst (fO l n i) ++ [l.getD i 0] := rfl
      rw [this]
      simp only [Option.toList, List.mem_append, List.mem_singleton]
      rw [ih]
      constructor
      · rintro (q | q)
        · exact ⟨q.1, .inl q.2⟩
        · exact ⟨by rw [q]; exact g, .inr q⟩
      · rintro ⟨q, q2 | q2⟩
        · exact .inl ⟨q, q2⟩
        · exact .inr q2
theorem fO_nodup {l : List Int} {n : Int} (hn : l.Nodup) : ∀ {i : Nat}, i ≤ l.length → (lst (fO l n i)).Nodup
  | 0, _ => by simp [fO, lst]
  | i + 1, h => by
    have ih := fO_nodup (n := n) hn (i := i) (by omega)
    unfold fO
    split
    · exact ih
    · have : lst (some (lst (fO l n i) ++ [l.getD i 0])) = lst (fO l n i) ++ [l.getD i 0] := rfl
      rw [this, List.nodup_append]
      refine ⟨ih, by simp, fun x hx y hy e => ?_⟩
      rw [List.mem_singleton] at hy
      subst e; subst hy
      have := (fO_mem (by omega)).1 hx
      have h2 : (l.take (i + 1)).Nodup := hn.sublist (List.take_sublist ..)
      have e : l[i]? = some (l.getD i 0) := by rw [List.getD_eq_getElem?_getD, List.getElem?_eq_getElem (by omega)]; rfl
      rw [List.take_add_one, e, List.nodup_append] at h2
      exact h2.2.2 _ this.2 _ (by simp) rfl
theorem fO_full {l : List Int} {n : Int} (h : n ∉ l) : ∀ {i : Nat}, i ≤ l.length → lst (fO l n i) = l.take i
  | 0, _ => by simp [fO, lst]
  | i + 1, hi => by
    have ih := fO_full h (i := i) (by omega)
    have e : l[i]? = some (l.getD i 0) := by rw [List.getD_eq_getElem?_getD, List.getElem?_eq_getElem (by omega)]; rfl
    unfold fO
    have g0 : ¬ l.getD i 0 = n := fun g => h (by rw [← g]; exact List.mem_of_getElem? e)
    rw [if_neg g0]
    have : lst (some (lst (fO l n i) ++ [l.getD i 0])) = lst (fO l n i) ++ [l.getD i 0] := rfl
    rw [this, ih, List.take_add_one, e]
    rfl
theorem fO_short {l : List Int} {n : Int} : ∀ {i : Nat}, i ≤ l.length → n ∈ l.take i → (lst (fO l n i)).length < i
  | 0, _, h => by simp at h
  | i + 1, hi, h => by
    have e : l[i]? = some (l.getD i 0) := by rw [List.getD_eq_getElem?_getD, List.getElem?_eq_getElem (by omega)]; rfl
    rw [List.take_add_one, e] at h
    simp only [Option.toList, List.mem_append, List.mem_singleton] at h
    unfold fO
    split
    · have := fO_len (l := l) (n := n) (i := i); omega
    · rename_i g
      have : lst (some (lst (fO l n i) ++ [l.getD i 0])) = lst (fO l n i) ++ [l.getD i 0] := rfl
      rw [this]
      rcases h with h | h
      · have := fO_short (by omega) h
        simp
        omega
      · exact absurd h.symm g
/-- Toggled: what is in it, if it was not there. -/
theorem tg_add {l : List Int} {n : Int} (h : n ∉ l) : lst (tgO l n) = l ++ [n] := by
  have e := fO_full h (Nat.le_refl _)
  rw [List.take_length] at e
  unfold tgO
  rw [e, if_pos rfl]
  rfl
theorem tg_cut {l : List Int} {n : Int} (h : n ∈ l) (hn : l.Nodup) : (lst (tgO l n)).Nodup ∧ ∀ k, k ∈ lst (tgO l n) ↔ k ≠ n ∧ k ∈ l := by
  have e := fO_short (l := l) (n := n) (i := l.length) (Nat.le_refl _) (by rw [List.take_length]; exact h)
  unfold tgO
  rw [if_neg (by omega)]
  refine ⟨fO_nodup hn (Nat.le_refl _), fun k => ?_⟩
  rw [fO_mem (Nat.le_refl _), List.take_length]
theorem tg_new {l : List Int} {n : Int} (h : n ∉ l) (hn : l.Nodup) : (lst (tgO l n)).Nodup ∧ ∀ k, k ∈ lst (tgO l n) ↔ k = n ∨ k ∈ l := by
  rw [tg_add h]
  refine ⟨?_, fun k => ?_⟩
  · rw [List.nodup_append]
    refine ⟨hn, by simp, fun x hx y hy e => ?_⟩
    rw [List.mem_singleton] at hy
    exact h (hy ▸ e ▸ hx)
  · rw [List.mem_append, List.mem_singleton]
    exact or_comm
/-- What took effect: when, of which key, made (0) or removed (1), with which answer. -/
structure EvT where (tm key op er : Int)
/-- What is there behind it; none: it may not be. -/
def evR (T : Nat) (q : Option (List Int)) (e : EvT) : Option (Option (List Int)) :=
  if e.er = 0 then (if hasL (lst q) e.key = decide (e.op = 0) then none else some (tgO (lst q) e.key))
  else if e.er = 14 then (if hasL (lst q) e.key then some q else none)
  else if e.er = 12 then (if hasL (lst q) e.key then none else some q)
  else if e.er = 15 then (if hasL (lst q) e.key = false ∧ (lst q).length = T then some q else none)
  else none
/-- All of them. -/
def evA (T : Nat) : Option (List Int) → List EvT → Option (Option (List Int))
  | q, [] => some q
  | q, e :: l => match evR T q e with | none => none | some q2 => evA T q2 l
theorem evA_app {T : Nat} {e : EvT} {q2 q3 : Option (List Int)} : ∀ {l : List EvT} {q : Option (List Int)}, evA T q l = some q2 → evR T q2 e = some q3 → evA T q (l ++ [e]) = some q3
  | [], q, h, h2 => by
    cases h
    rw [List.nil_append]
    unfold evA
    rw [h2]; rfl
  | x :: l, q, h, h2 => by
    rw [List.cons_append]
    unfold evA at h ⊢
    rcases g : evR T q x with _ | q4
    · rw [g] at h; cases h
    · rw [g] at h
      exact evA_app h h2
/-- The rows are the directory's keys, but for the key of a run that is between its two writes. -/
def KM (T : Nat) (W : List Int) (c : Nat → Option TS) (K : List Int) : Prop :=
  ∀ k, k ∈ K ↔ (∃ b t, c b = some t ∧ t.ph = 6 ∧ t.key = k ∧ t.rm = false) ∨ (inW T W k ∧ ¬ ∃ b t, c b = some t ∧ t.ph = 6 ∧ t.key = k)
section
variable {T : Nat} {W : List Int} {c : Nat → Option TS} {a : Nat} {s : TS}
def ex6 (c : Nat → Option TS) (a : Nat) (P : TS → Prop) : Prop := ∃ b t, b ≠ a ∧ c b = some t ∧ t.ph = 6 ∧ P t
theorem ex6_at (hc : c a = some s) (P : TS → Prop) : (∃ b t, c b = some t ∧ t.ph = 6 ∧ P t) ↔ (s.ph = 6 ∧ P s) ∨ ex6 c a P := by
  constructor
  · rintro ⟨b, t, h, h2⟩
    by_cases g : b = a
    · subst g; rw [hc] at h; cases h; exact .inl h2
    · exact .inr ⟨b, t, g, h, h2⟩
  · rintro (h | ⟨b, t, _, h⟩)
    · exact ⟨a, s, hc, h⟩
    · exact ⟨b, t, h⟩
theorem ex6_upd (o : Option TS) (P : TS → Prop) : (∃ b t, upd c a o b = some t ∧ t.ph = 6 ∧ P t) ↔ (∃ t, o = some t ∧ t.ph = 6 ∧ P t) ∨ ex6 c a P := by
  constructor
  · rintro ⟨b, t, h, h2⟩
    by_cases g : b = a
    · subst g; simp only [upd, if_true] at h; exact .inl ⟨t, h, h2⟩
    · simp only [upd, if_neg g] at h; exact .inr ⟨b, t, g, h, h2⟩
  · rintro (⟨t, h, h2⟩ | ⟨b, t, g, h⟩)
    · exact ⟨a, t, by simp only [upd, if_true]; exact h, h2⟩
    · exact ⟨b, t, by simp only [upd, if_neg g]; exact h.1, h.2⟩
theorem inW_eq {W' : List Int} {k : Int} (hw : ∀ p, p < T → W'.getD (eP p) 0 = W.getD (eP p) 0) : inW T W' k ↔ inW T W k := by
  constructor
  · rintro ⟨p, hp, h⟩; rw [hw p hp] at h; exact ⟨p, hp, h⟩
  · rintro ⟨p, hp, h⟩; rw [← hw p hp] at h; exact ⟨p, hp, h⟩
theorem ex6_none {sf : Int → Nat} (D : DInv T sf W c) (hc : c a = some s) (h3 : 3 ≤ s.ph) (P : TS → Prop) : ¬ ex6 c a P := by
  rintro ⟨b, t, hb, hbt, h6, _⟩
  exact hb (D.un b a t s hbt hc (by omega) h3)
theorem km_low {W' : List Int} {K : List Int} {o : Option TS} (hc : c a = some s) (h6 : s.ph ≠ 6) (ho : ∀ t, o = some t → t.ph ≠ 6) (hw : ∀ p, p < T → W'.getD (eP p) 0 = W.getD (eP p) 0) (km : KM T W c K) : KM T W' (upd c a o) K := by
  have e : ∀ P : TS → Prop, (∃ b t, upd c a o b = some t ∧ t.ph = 6 ∧ P t) ↔ (∃ b t, c b = some t ∧ t.ph = 6 ∧ P t) := fun P => by
    rw [ex6_upd o P, ex6_at hc P]
    constructor
    · rintro (⟨t, e, g, _⟩ | h)
      · exact absurd g (ho t e)
      · exact .inr h
    · rintro (⟨g, _⟩ | h)
      · exact absurd g h6
      · exact .inr h
  intro k
  rw [km k, e (fun t => t.key = k ∧ t.rm = false), e (fun t => t.key = k), inW_eq hw]
theorem km_at {sf : Int → Nat} {K : List Int} (D : DInv T sf W c) (hc : c a = some s) (h3 : 3 ≤ s.ph) (h6 : s.ph ≠ 6) (km : KM T W c K) (k : Int) : k ∈ K ↔ inW T W k := by
  rw [km k, ex6_at hc (fun t => t.key = k ∧ t.rm = false), ex6_at hc (fun t => t.key = k)]
  have n1 := ex6_none D hc h3 (fun t => t.key = k ∧ t.rm = false)
  have n2 := ex6_none D hc h3 (fun t => t.key = k)
  constructor
  · rintro ((⟨g, _⟩ | g) | ⟨g, _⟩)
    · exact absurd g h6
    · exact absurd g n1
    · exact g
  · intro g
    refine .inr ⟨g, ?_⟩
    rintro (⟨g, _⟩ | g)
    · exact h6 g
    · exact n2 g
theorem km_6 {sf : Int → Nat} {K : List Int} (D : DInv T sf W c) (hc : c a = some s) (h6 : s.ph = 6) (km : KM T W c K) (k : Int) : k ∈ K ↔ (s.key = k ∧ s.rm = false) ∨ (inW T W k ∧ s.key ≠ k) := by
  rw [km k, ex6_at hc (fun t => t.key = k ∧ t.rm = false), ex6_at hc (fun t => t.key = k)]
  have n1 := ex6_none D hc (by omega) (fun t => t.key = k ∧ t.rm = false)
  have n2 := ex6_none D hc (by omega) (fun t => t.key = k)
  constructor
  · rintro ((⟨_, g⟩ | g) | ⟨g, g2⟩)
    · exact .inl g
    · exact absurd g n1
    · exact .inr ⟨g, fun e => g2 (.inl ⟨h6, e⟩)⟩
  · rintro (g | ⟨g, g2⟩)
    · exact .inl (.inl ⟨h6, g⟩)
    · refine .inr ⟨g, ?_⟩
      rintro (⟨_, g⟩ | g)
      · exact g2 g
      · exact n2 g
theorem km_to {sf : Int → Nat} {W' : List Int} {K : List Int} {o : Option TS} (D : DInv T sf W c) (hc : c a = some s) (h3 : 3 ≤ s.ph) (ho : ∀ t, o = some t → t.ph ≠ 6) (h : ∀ k, k ∈ K ↔ inW T W' k) : KM T W' (upd c a o) K := by
  intro k
  rw [h k, ex6_upd o (fun t => t.key = k ∧ t.rm = false), ex6_upd o (fun t => t.key = k)]
  have n1 := ex6_none D hc h3 (fun t => t.key = k ∧ t.rm = false)
  have n2 := ex6_none D hc h3 (fun t => t.key = k)
  constructor
  · intro g
    refine .inr ⟨g, ?_⟩
    rintro (⟨t, e, g, _⟩ | g)
    · exact ho t e g
    · exact n2 g
  · rintro ((⟨t, e, g, _⟩ | g) | ⟨g, _⟩)
    · exact absurd g (ho t e)
    · exact absurd g n1
    · exact g
theorem km_to6 {sf : Int → Nat} {W' : List Int} {K : List Int} {s' : TS} (D : DInv T sf W c) (hc : c a = some s) (h3 : 3 ≤ s.ph) (h6 : s'.ph = 6) (h : ∀ k, k ∈ K ↔ (s'.key = k ∧ s'.rm = false) ∨ (inW T W' k ∧ s'.key ≠ k)) : KM T W' (upd c a (some s')) K := by
  intro k
  rw [h k, ex6_upd (some s') (fun t => t.key = k ∧ t.rm = false), ex6_upd (some s') (fun t => t.key = k)]
  have n1 := ex6_none D hc h3 (fun t => t.key = k ∧ t.rm = false)
  have n2 := ex6_none D hc h3 (fun t => t.key = k)
  constructor
  · rintro (g | ⟨g, g2⟩)
    · exact .inl (.inl ⟨s', rfl, h6, g⟩)
    · refine .inr ⟨g, ?_⟩
      rintro (⟨t, e, _, g⟩ | g)
      · cases e; exact g2 g
      · exact n2 g
  · rintro ((⟨t, e, _, g⟩ | g) | ⟨g, g2⟩)
    · cases e; exact .inl g
    · exact absurd g n1
    · exact .inr ⟨g, fun e => g2 (.inl ⟨s', rfl, h6, e⟩)⟩
theorem ky_s {p : Nat} : lst (kyL W (p + 1)) = if isK (W.getD (eP p) 0) = true then lst (kyL W p) ++ [W.getD (eP p) 0 / 4] else lst (kyL W p) := by
  rw [kyL]
  split
  · rcases kyL W p with _ | _ <;> rfl
  · rfl
theorem ky_in {k : Int} : ∀ {p : Nat}, k ∈ lst (kyL W p) ↔ ∃ q, q < p ∧ isK (W.getD (eP q) 0) = true ∧ W.getD (eP q) 0 / 4 = k
  | 0 => by
    constructor
    · intro h; cases h
    · rintro ⟨q, h, _⟩; omega
  | p + 1 => by
    have ih := ky_in (k := k) (p := p)
    rw [ky_s]
    split
    · rename_i g
      rw [List.mem_append, List.mem_singleton, ih]
      constructor
      · rintro (⟨q, h, h2⟩ | h)
        · exact ⟨q, by omega, h2⟩
        · exact ⟨p, by omega, g, h.symm⟩
      · rintro ⟨q, h, h2⟩
        by_cases e : q = p
        · subst e; exact .inr h2.2.symm
        · exact .inl ⟨q, by omega, h2⟩
    · rename_i g
      rw [ih]
      constructor
      · rintro ⟨q, h, h2⟩; exact ⟨q, by omega, h2⟩
      · rintro ⟨q, h, h2⟩
        by_cases e : q = p
        · subst e; exact absurd h2.1 g
        · exact ⟨q, by omega, h2⟩
theorem ky_nd {sf : Int → Nat} (D : DE T sf W) : ∀ {p : Nat}, p ≤ T → (lst (kyL W p)).Nodup
  | 0, _ => by simp [kyL, lst]
  | p + 1, hp => by
    have ih := ky_nd D (p := p) (by omega)
    rw [ky_s]
    split
    · rename_i g
      rw [List.nodup_append]
      refine ⟨ih, by simp, fun x hx y hy e => ?_⟩
      rw [List.mem_singleton] at hy
      subst e; subst hy
      obtain ⟨q, h, h2, h3⟩ := ky_in.1 hx
      have := D.u q p (by omega) (by omega) h2 g h3
      omega
    · exact ih
theorem ky_len {sf : Int → Nat} {K : List Int} (D : DE T sf W) (hn : K.Nodup) (hk : ∀ k, k ∈ K ↔ inW T W k) : K.length = (lst (kyL W T)).length :=
  ((List.perm_ext_iff_of_nodup hn (ky_nd D (Nat.le_refl _))).2 (fun k => by rw [hk k, ky_in]; exact Iff.rfl)).length_eq
theorem ky_all : ∀ {p : Nat}, (∀ q, q < p → isK (W.getD (eP q) 0) = true) → (lst (kyL W p)).length = p
  | 0, _ => rfl
  | p + 1, h => by
    have ih := ky_all (p := p) (fun q hq => h q (by omega))
    rw [ky_s]
    rw [if_pos (h p (by omega))]
    simp [ih]
end
end Go.Proofs.YtkkddjchkkaagaaGreatDoor

/- A step, and what took effect. -/
namespace Go.Proofs.YtkkddjchkkaagaaGreatDoor
open Go Go.Hx
set_option maxRecDepth 8000
/-- A step: nothing took effect; it took effect before; it takes effect now. -/
inductive KS (T : Nat) (st : Int) (c : Nat → Option TS) (a : Nat) (s : TS) (q : Option (List Int)) (r : TR) : Prop
  | still (h1 : s.ph ≤ 5) (h2 : r.s.tm = s.tm) (h3 : KM T r.W (upd c a (if r.s.ph = 0 then none else some r.s)) (lst q))
  | on (h1 : 6 ≤ s.ph) (h2 : r.s.tm = s.tm) (h3 : r.s.er = s.er) (h4 : r.s.ph = 7 ∨ r.s.ph = 0) (h5 : KM T r.W (upd c a (if r.s.ph = 0 then none else some r.s)) (lst q))
  | now (h1 : s.ph ≤ 5) (h2 : 6 ≤ r.s.ph) (h3 : r.s.tm = st + 1) (q2 : Option (List Int)) (h4 : evR T q ⟨st + 1, s.key, if s.rm then 1 else 0, r.s.er⟩ = some q2) (h5 : (lst q2).Nodup) (h6 : KM T r.W (upd c a (if r.s.ph = 0 then none else some r.s)) (lst q2))
section
variable {T : Nat} {W : List Int} {c : Nat → Option TS} {a : Nat} {s : TS} {R st n : Int} {q : Option (List Int)}
theorem ho_of {s' : TS} (h : s'.ph ≠ 6) : ∀ t, (if s'.ph = 0 then none else some s') = some t → t.ph ≠ 6 := by
  intro t e
  split at e
  · cases e
  · cases e; exact h
theorem tFail_f {s : TS} : (tFail R s).tm = s.tm ∧ (tFail R s).ph ≠ 6 := by unfold tFail; split <;> simp
theorem tMore_f {s : TS} : (tMore R s).tm = s.tm ∧ (tMore R s).ph ≠ 6 := by unfold tMore; split <;> simp
theorem hasL_no {l : List Int} {k : Int} (h : k ∉ l) : hasL l k = false := by
  rcases e : hasL l k with _ | _
  · rfl
  · exact absurd (hasL_iff.1 e) h
theorem ks_still (hc : c a = some s) (km : KM T W c (lst q)) {r : TR} (h1 : s.ph ≤ 5) (h2 : r.s.tm = s.tm) (h6 : r.s.ph ≠ 6) (hw : ∀ p, p < T → r.W.getD (eP p) 0 = W.getD (eP p) 0) : KS T st c a s q r :=
  .still h1 h2 (km_low hc (by omega) (ho_of h6) hw km)
theorem ks_there {sf : Int → Nat} (D : DInv T sf W c) (hc : c a = some s) (km : KM T W c (lst q)) (nd : (lst q).Nodup) {r : TR} (h1 : s.ph = 3) (_rm : s.rm = false) (h2 : r.s.tm = st + 1) (h7 : r.s.ph = 7) (hr : r.s.er = 14) (hw : r.W = W) (hi : inW T W s.key) : KS T st c a s q r := by
  have m := (km_at D hc (by omega) (by omega) km s.key).2 hi
  refine .now (by omega) (by omega) h2 q ?_ nd (km_low hc (by omega) (ho_of (by omega)) (fun p _ => by rw [hw]) km)
  unfold evR
  dsimp only
  rw [hr, if_neg (by decide), if_pos rfl, if_pos (hasL_iff.2 m)]
theorem ks_none {sf : Int → Nat} (D : DInv T sf W c) (hc : c a = some s) (km : KM T W c (lst q)) (nd : (lst q).Nodup) {r : TR} (h1 : s.ph = 3) (h2 : r.s.tm = st + 1) (h7 : r.s.ph = 7) (hr : r.s.er = 12) (hw : r.W = W) (hi : ¬ inW T W s.key) : KS T st c a s q r := by
  have m : s.key ∉ lst q := fun g => hi ((km_at D hc (by omega) (by omega) km s.key).1 g)
  refine .now (by omega) (by omega) h2 q ?_ nd (km_low hc (by omega) (ho_of (by omega)) (fun p _ => by rw [hw]) km)
  unfold evR
  dsimp only
  rw [hr, if_neg (by decide), if_neg (by decide), if_pos rfl, hasL_no m]
  rfl
theorem ks_full {sf : Int → Nat} (D : DInv T sf W c) (hc : c a = some s) (km : KM T W c (lst q)) (nd : (lst q).Nodup) {r : TR} (h1 : s.ph = 3) (h2 : r.s.tm = st + 1) (h7 : r.s.ph = 7) (hr : r.s.er = 15) (hw : r.W = W) (hi : ¬ inW T W s.key) (hf : ∀ p, p < T → isK (W.getD (eP p) 0) = true) : KS T st c a s q r := by
  have e := km_at D hc (by omega) (by omega) km
  have m : s.key ∉ lst q := fun g => hi ((e s.key).1 g)
  have ln : (lst q).length = T := by rw [ky_len D.de nd e, ky_all hf]
  refine .now (by omega) (by omega) h2 q ?_ nd (km_low hc (by omega) (ho_of (by omega)) (fun p _ => by rw [hw]) km)
  unfold evR
  dsimp only
  rw [hr, if_neg (by decide), if_neg (by decide), if_neg (by decide), if_pos rfl, if_pos ⟨hasL_no m, ln⟩]
theorem ks_made {sf : Int → Nat} (D : DInv T sf W c) (hc : c a = some s) (km : KM T W c (lst q)) (nd : (lst q).Nodup) {r : TR} (h1 : s.ph = 5) (rm : s.rm = false) (h2 : r.s.tm = st + 1) (h6 : r.s.ph = 6) (hr : r.s.er = 0) (hk : r.s.key = s.key) (hm : r.s.rm = s.rm) (hw : ∀ p, p < T → r.W.getD (eP p) 0 = W.getD (eP p) 0) (hi : ¬ inW T W s.key) : KS T st c a s q r := by
  have e := km_at D hc (by omega) (by omega) km
  have m : s.key ∉ lst q := fun g => hi ((e s.key).1 g)
  obtain ⟨n1, n2⟩ := tg_new m nd
  refine .now (by omega) (by omega) h2 (tgO (lst q) s.key) ?_ n1 ?_
  · unfold evR
    dsimp only
    rw [hr, if_pos rfl, rm, hasL_no m]
    rfl
  · rw [if_neg (by omega)]
    refine km_to6 D hc (by omega) h6 (fun k => ?_)
    rw [n2 k, e k, inW_eq hw, hk, hm, rm]
    constructor
    · rintro (g | g)
      · exact .inl ⟨g.symm, rfl⟩
      · exact .inr ⟨g, fun g2 => hi (g2 ▸ g)⟩
    · rintro (g | g)
      · exact .inl g.1.symm
      · exact .inr g.1
theorem ks_gone {sf : Int → Nat} (D : DInv T sf W c) (hc : c a = some s) (km : KM T W c (lst q)) (nd : (lst q).Nodup) {r : TR} (h1 : s.ph = 5) (rm : s.rm = true) (h2 : r.s.tm = st + 1) (h6 : r.s.ph = 6) (hr : r.s.er = 0) (hk : r.s.key = s.key) (hm : r.s.rm = s.rm) (hw : ∀ p, p < T → r.W.getD (eP p) 0 = W.getD (eP p) 0) (hi : inW T W s.key) : KS T st c a s q r := by
  have e := km_at D hc (by omega) (by omega) km
  have m := (e s.key).2 hi
  obtain ⟨n1, n2⟩ := tg_cut m nd
  refine .now (by omega) (by omega) h2 (tgO (lst q) s.key) ?_ n1 ?_
  · unfold evR
    dsimp only
    rw [hr, if_pos rfl, rm, hasL_iff.2 m]
    rfl
  · rw [if_neg (by omega)]
    refine km_to6 D hc (by omega) h6 (fun k => ?_)
    rw [n2 k, e k, inW_eq hw, hk, hm, rm]
    constructor
    · rintro ⟨g, g2⟩
      exact .inr ⟨g2, fun g3 => g g3.symm⟩
    · rintro (g | g)
      · exact absurd g.2 (by decide)
      · exact ⟨fun g3 => g.2 g3.symm, g.1⟩
theorem ks_write {sf : Int → Nat} (D : DInv T sf W c) (hc : c a = some s) (km : KM T W c (lst q)) {r : TR} (h6 : s.ph = 6) (h2 : r.s.tm = s.tm) (hr : r.s.er = s.er) (h7 : r.s.ph = 7) (hw : ∀ k, inW T r.W k ↔ (s.key = k ∧ s.rm = false) ∨ (inW T W k ∧ s.key ≠ k)) : KS T st c a s q r :=
  .on (by omega) h2 hr (.inl h7) (km_to D hc (by omega) (ho_of (by omega)) (fun k => by rw [km_6 D hc h6 km k, hw k]))
theorem ks_end (hc : c a = some s) (km : KM T W c (lst q)) {r : TR} (h7 : s.ph = 7) (h2 : r.s.tm = s.tm) (hr : r.s.er = s.er) (h0 : r.s.ph = 0) (hw : ∀ p, p < T → r.W.getD (eP p) 0 = W.getD (eP p) 0) : KS T st c a s q r :=
  .on (by omega) h2 hr (.inr h0) (km_low hc (by omega) (ho_of (by omega)) hw km)
end
end Go.Proofs.YtkkddjchkkaagaaGreatDoor

/- Every step is one of them. -/
namespace Go.Proofs.YtkkddjchkkaagaaGreatDoor
open Go Go.Hx
set_option maxRecDepth 8000
section
variable {T : Nat} {W : List Int} {c : Nat → Option TS} {a : Nat} {s : TS} {R st n : Int} {q : Option (List Int)}
set_option maxHeartbeats 1000000 in
theorem ks_step (D : DInv T (sfT T R) W c) (hc : c a = some s) (C : TC T R n s) (km : KM T W c (lst q)) (nd : (lst q).Nodup) : KS T st c a s q (tStep T R (sfT T R s.key) s W st) := by
  have k := D.tk a s hc
  have de := D.de
  have hst := (D.ok a s hc).st
  obtain ⟨rm, lg, key, ph, seq, i, fd, hd, tm, er, pl, sn, fl, bk, ep, tp, tl⟩ := s
  have p1 : 1 ≤ ph := C.p1
  have p7 : ph ≤ 7 := C.p7
  have e0 : ph ≤ 6 → er = 0 := C.e0
  have it : ph ≤ 3 → i < T := C.it
  dsimp only at hst
  have t1 := de.t0
  have hp : ph = 1 ∨ ph = 2 ∨ ph = 3 ∨ ph = 4 ∨ ph = 5 ∨ ph = 6 ∨ ph = 7 := by omega
  rcases hp with rfl | rfl | rfl | rfl | rfl | rfl | rfl
  · unfold tStep
    dsimp only
    rw [if_pos rfl]
    refine ks_still hc km (by dsimp only; omega) ?_ ?_ (fun _ _ => rfl)
    · dsimp only; split
      · exact tFail_f.1
      · rfl
    · dsimp only; split
      · exact tFail_f.2
      · dsimp only; omega
  · unfold tStep
    dsimp only
    rw [if_neg (by decide), if_pos rfl]
    split
    · exact ks_still hc km (by dsimp only; omega) rfl (by dsimp only; omega) (fun _ _ => get2e)
    · exact ks_still hc km (by dsimp only; omega) tFail_f.1 tFail_f.2 (fun _ _ => rfl)
  · obtain rfl := e0 (by omega)
    have hi := it (by omega)
    have k := k (by dsimp only; omega)
    obtain ⟨_, hj⟩ := k.lk rfl
    have cr := k.cr
    dsimp only at hj cr
    have hpl : tPl T (sfT T R key) i < T := tPl_lt t1 i
    have ab : ∀ hk : ¬ (isK (W.getD (eP (tPl T (sfT T R key) i)) 0) = true ∧ W.getD (eP (tPl T (sfT T R key) i)) 0 / 4 = key), (W.getD (eP (tPl T (sfT T R key) i)) 0 = 0 ∨ i + 1 = T) → ¬ inW T W key := fun hk hl => by
      rintro ⟨p, hp, a, b⟩
      refine absent de hst (i + 1) (fun j hj2 => ?_) ?_ p hp a b
      · by_cases g : j < i
        · exact (hj j g).2
        · obtain rfl : j = i := by omega
          exact hk
      · rcases hl with q | q
        · exact .inr ⟨i, rfl, q⟩
        · exact .inl q
    unfold tStep
    dsimp only
    rw [if_neg (by decide), if_neg (by decide), if_pos rfl]
    by_cases hf : isK (W.getD (eP (tPl T (sfT T R key) i)) 0) = true ∧ W.getD (eP (tPl T (sfT T R key) i)) 0 / 4 = key
    · have hf2 : (isK (W.getD (eP (tPl T (sfT T R key) i)) 0) && decide (W.getD (eP (tPl T (sfT T R key) i)) 0 / 4 = key)) = true := by rw [hf.1, decide_eq_true hf.2]; rfl
      rw [hf2]
      rcases rm with _ | _ <;> simp only [Bool.false_eq_true, if_false, if_true]
      · exact ks_there D hc km nd rfl rfl rfl rfl rfl rfl ⟨_, hpl, hf⟩
      · exact ks_still hc km (by dsimp only; omega) rfl (by dsimp only; omega) (fun _ _ => rfl)
    · have hf2 : (isK (W.getD (eP (tPl T (sfT T R key) i)) 0) && decide (W.getD (eP (tPl T (sfT T R key) i)) 0 / 4 = key)) = false := by
        rcases q : (isK (W.getD (eP (tPl T (sfT T R key) i)) 0) && decide (W.getD (eP (tPl T (sfT T R key) i)) 0 / 4 = key)) with _ | _
        · rfl
        · simp only [Bool.and_eq_true, decide_eq_true_eq] at q; exact absurd q hf
      rw [hf2]
      rcases hl : (decide (W.getD (eP (tPl T (sfT T R key) i)) 0 = 0) || decide (i + 1 = T)) with _ | _
      · rcases rm with _ | _ <;> simp only [Bool.false_eq_true, if_false, if_true]
        · exact ks_still hc km (by dsimp only; omega) rfl (by dsimp only; omega) (fun _ _ => rfl)
        · exact ks_still hc km (by dsimp only; omega) rfl (by dsimp only; omega) (fun _ _ => rfl)
      · have hl' : W.getD (eP (tPl T (sfT T R key) i)) 0 = 0 ∨ i + 1 = T := by simpa [-List.getD_eq_getElem?_getD] using hl
        have ab := ab hf hl'
        rcases rm with _ | _ <;> simp only [Bool.false_eq_true, if_false, if_true]
        · have cr := cr rfl rfl
          by_cases hne : (if isK (W.getD (eP (tPl T (sfT T R key) i)) 0) = false ∧ pl = -1 then ((tPl T (sfT T R key) i : Nat) : Int) else pl) = -1
          · rw [if_pos hne]
            refine ks_full D hc km nd rfl rfl rfl rfl rfl ab (fun p hp => ?_)
            have hx : pl = -1 ∧ isK (W.getD (eP (tPl T (sfT T R key) i)) 0) = true := by
              split at hne
              · omega
              · rename_i g
                refine ⟨hne, ?_⟩
                rcases e : isK (W.getD (eP (tPl T (sfT T R key) i)) 0) with _ | _
                · exact absurd ⟨e, hne⟩ g
                · rfl
            have hall : ∀ j, j < i → isK (W.getD (eP (tPl T (sfT T R key) j)) 0) = true := by
              rcases cr with ⟨_, h⟩ | ⟨j, _, h, _⟩
              · exact h
              · omega
            have iT : i + 1 = T := by
              rcases hl' with h | h
              · exact absurd h (isK_ne hx.2).1
              · exact h
            obtain ⟨j, hj2, e⟩ := tPl_all t1 hp hst
            rw [← e]
            by_cases g : j < i
            · exact hall j g
            · obtain rfl : j = i := by omega
              exact hx.2
          · rw [if_neg hne]
            exact ks_still hc km (by dsimp only; omega) rfl (by dsimp only; omega) (fun _ _ => rfl)
        · exact ks_none D hc km nd rfl rfl rfl rfl rfl ab
  · unfold tStep
    dsimp only
    rw [if_neg (by decide), if_neg (by decide), if_neg (by decide), if_pos rfl]
    refine ks_still hc km (by dsimp only; omega) ?_ ?_ (fun _ _ => rfl)
    · dsimp only; split
      · exact tMore_f.1
      · rfl
    · dsimp only; split
      · exact tMore_f.2
      · dsimp only; omega
  · obtain rfl := e0 (by omega)
    obtain ⟨p, hp, rfl⟩ : ∃ p : Nat, p < T ∧ pl = (p : Int) := C.pe (by dsimp only; omega) (by dsimp only; omega)
    have k := k (by dsimp only; omega)
    have ge : ∀ v q, q < T → (W.set (cP T p) v).getD (eP q) 0 = W.getD (eP q) 0 := fun v q hq => by
      rw [set_getD, if_neg (fun g => eP_cP hq g.1.symm)]
    unfold tStep
    dsimp only
    rw [if_neg (by decide), if_neg (by decide), if_neg (by decide), if_neg (by decide), if_pos rfl, Int.toNat_natCast]
    rcases rm with _ | _
    · rw [if_neg (by decide)]
      have k4 := (k.c4 rfl (by dsimp only; omega) (by dsimp only; omega)).1
      exact ks_made D hc km nd rfl rfl rfl rfl rfl rfl rfl (ge _) (fun ⟨p, hp, a, b⟩ => k4 p hp a b)
    · rw [if_pos rfl]
      obtain ⟨p', hp', _, k1, k2⟩ := k.r4 rfl (by dsimp only; omega) (by dsimp only; omega)
      split
      · exact ks_gone D hc km nd rfl rfl rfl rfl rfl rfl rfl (ge _) ⟨p', hp', k1, k2⟩
      · exact ks_still hc km (by dsimp only; omega) tMore_f.1 tMore_f.2 (fun _ _ => rfl)
  · obtain rfl := e0 (by omega)
    obtain ⟨p, hp, rfl⟩ : ∃ p : Nat, p < T ∧ pl = (p : Int) := C.pe (by dsimp only; omega) (by dsimp only; omega)
    have k := k (by dsimp only; omega)
    have ge : ∀ v q, q < T → (W.set (eP p) v).getD (eP q) 0 = if q = p then v else W.getD (eP q) 0 := fun v q hq => by
      rw [set_getD]
      by_cases g : q = p
      · subst g; rw [if_pos ⟨rfl, eP_lt de hq⟩, if_pos rfl]
      · rw [if_neg (fun g2 => g (eP_inj g2.1).symm), if_neg g]
    unfold tStep
    dsimp only
    rw [if_neg (by decide), if_neg (by decide), if_neg (by decide), if_neg (by decide), if_neg (by decide), if_pos rfl, Int.toNat_natCast]
    rcases rm with _ | _ <;> simp only [Bool.false_eq_true, if_false, if_true]
    · obtain ⟨k4, j, ej, nk, _⟩ := k.c4 rfl (by dsimp only; omega) (by dsimp only; omega)
      dsimp only at k4 ej nk
      have ep : p = tPl T (sfT T R key) j := by omega
      rw [← ep] at nk
      obtain ⟨k1, k2, _⟩ := enK_is (lg := lg) C.k1 C.k6
      dsimp only at k1 k2
      refine ks_write D hc km rfl rfl rfl rfl (fun k => ?_)
      dsimp only
      constructor
      · rintro ⟨x, hx, h, h2⟩
        rw [ge _ x hx] at h h2
        split at h
        · rename_i g
          rw [if_pos g, k2] at h2
          exact .inl ⟨h2, rfl⟩
        · rename_i g
          rw [if_neg g] at h2
          exact .inr ⟨⟨x, hx, h, h2⟩, fun e => k4 x hx h (h2.trans e.symm)⟩
      · rintro (⟨e, _⟩ | ⟨⟨x, hx, h, h2⟩, e⟩)
        · exact ⟨p, hp, by rw [ge _ p hp, if_pos rfl]; exact k1, by rw [ge _ p hp, if_pos rfl, k2]; exact e⟩
        · have g : x ≠ p := fun g => by subst g; rw [nk] at h; cases h
          exact ⟨x, hx, by rw [ge _ x hx, if_neg g]; exact h, by rw [ge _ x hx, if_neg g]; exact h2⟩
    · obtain ⟨p', hp', ep', hk, hv⟩ := k.r4 rfl (by dsimp only; omega) (by dsimp only; omega)
      dsimp only at ep' hv hk
      obtain rfl : p = p' := by omega
      refine ks_write D hc km rfl rfl rfl rfl (fun k => ?_)
      dsimp only
      constructor
      · rintro ⟨x, hx, h, h2⟩
        rw [ge _ x hx] at h h2
        split at h
        · exact absurd h (by decide)
        · rename_i g
          rw [if_neg g] at h2
          exact .inr ⟨⟨x, hx, h, h2⟩, fun e => g (de.u x p hx hp h hk (by rw [h2, hv, e]))⟩
      · rintro (⟨_, e⟩ | ⟨⟨x, hx, h, h2⟩, e⟩)
        · cases e
        · have g : x ≠ p := fun g => by subst g; exact e (hv.symm.trans h2)
          exact ⟨x, hx, by rw [ge _ x hx, if_neg g]; exact h, by rw [ge _ x hx, if_neg g]; exact h2⟩
  · unfold tStep
    dsimp only
    rw [if_neg (by decide), if_neg (by decide), if_neg (by decide), if_neg (by decide), if_neg (by decide), if_neg (by decide), if_pos rfl]
    exact ks_end hc km rfl rfl rfl rfl (fun _ _ => get2e)
end
end Go.Proofs.YtkkddjchkkaagaaGreatDoor
