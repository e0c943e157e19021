/- Heads: both lists as contracts; two rows compared; the chapter's example; HeadsTell, HeadsTurn. -/
import Derived.Test.YtfdkaakllceebaaDoorListWalk
import Derived.Test.YtfdkaakllceebaaDoorAsTop
namespace Go.Proofs.YtfdkaakllceebaaDoor
open Go Go.Hx
set_option maxRecDepth 8000
theorem and32i (x : Int) : ibits .and .i64 x 4294967295 = x % 4294967296 := by
  have e : (BitVec.ofInt IntKind.i64.bits x &&& BitVec.ofInt IntKind.i64.bits 4294967295).toNat = (x % 18446744073709551616).toNat % 4294967296 := by
    rw [BitVec.toNat_and]
    have e1 : (BitVec.ofInt IntKind.i64.bits x).toNat = (x % 18446744073709551616).toNat := by
      simp only [BitVec.toNat_ofInt, IntKind.bits]
      rfl
    have e2 : (BitVec.ofInt IntKind.i64.bits 4294967295).toNat = 2 ^ 32 - 1 := by decide
    rw [e1, e2, Nat.and_two_pow_sub_one_eq_mod]
  show IntKind.i64.wrap _ = _
  rw [e, IntKind.wrap_i64]
  omega
theorem set_self {H : List HE} {h : Nat} {o : SO} (hg : getH H h = some o) : H.set h (.obj o) = H := by
  have := getH_some.1 hg
  apply List.ext_getElem?
  intro i
  rw [List.getElem?_set]
  split
  · rename_i e
    subst e
    split
    · exact this.symm
    · rename_i hn
      rw [List.getElem?_eq_none (by omega)] at this
      simp at this
  · rfl
/-- Words of 64 bits. -/
def InU (W : List Int) : Prop := ∀ x ∈ W, 0 ≤ x ∧ x < 18446744073709551616
def isCode : HR → Bool
  | .code _ => true
  | _ => false
theorem hl_ncode {a0 a1 a2 a4 a5 a6 a7 c : Int} {W : List Int} : ∀ {n : Nat} {p : Int} {o : Option (List Int)}, isCode (hlF a0 a1 a2 a4 a5 a6 a7 c W n p o) = false
  | 0, _, _ => rfl
  | n + 1, p, o => by
    rw [hlF]
    split
    · rfl
    split
    · rfl
    split
    · rfl
    exact hl_ncode
/-- What is told, in a heap of its own. -/
def lsP (k : Nat) : HR → SV
  | .ok none => .tup [.nilslice, .niliface]
  | .ok (some l) => .tup [.sbuf k 1 0 l.length, .niliface]
  | .bad _ _ => .tup [.nilslice, .iface 93 (.ptr k 0)]
  | .code e => .tup [.nilslice, .iface 38 (.int .i64 e)]
def lsN : HR → List HE
  | .ok none => []
  | .ok (some l) => [.obj (.buf .i64 l 1 3)]
  | .bad e p => [atO e p]
  | .code _ => []
theorem ls_frame {f : Nat} {a0 a1 a2 a3 a4 a5 a6 a7 a8 c : Int} {x y : SV} {o : SO} {r : HR} {H : List HE} {h : Nat}
    (hF : Gives Tryd.prog f [C9 a0 a1 a2 a3 a4 a5 a6 a7 a8, x, .int .i64 c] [.obj o] (Is (hlV r) (hlL o r))) (hx : x.ren (nm [h] H) = y) (hok : x.okh (there [.obj o]) = true) (ho : okHs (there [.obj o]) [.obj o] = true) (hg : getH H h = some o) (hor : o.ren (nm [h] H) = o) :
    Gives Tryd.prog f [C9 a0 a1 a2 a3 a4 a5 a6 a7 a8, y, .int .i64 c] H (Is (lsP H.length r) (H ++ lsN r)) := by
  have hgo : getH H h = some (o.ren (nm [h] H)) := by rw [hor]; exact hg
  have hL : hlL o r = .obj o :: lsN r := by
    rcases r with (_ | l) | _ | _ <;> rfl
  rw [hL] at hF
  have hcok : SV.okhs (there [.obj o]) [C9 a0 a1 a2 a3 a4 a5 a6 a7 a8, x, .int .i64 c] = true := by
    simp only [SV.okhs, hok, Bool.and_true, Bool.true_and]; rfl
  have := frame1 (ags := [C9 a0 a1 a2 a3 a4 a5 a6 a7 a8, y, .int .i64 c]) (N := lsN r) (H := H) (h0 := h) ⟨_, hTE⟩ hF (by rw [← hx]; rfl) hcok ho hgo (by rcases r with (_ | l) | _ | _ <;> rfl)
  rw [hor, set_self hg] at this
  have e2 : (hlV r).ren (nm [h] H) = lsP H.length r := by rcases r with (_ | l) | _ | _ <;> rfl
  have e3 : (lsN r).map (HE.ren (nm [h] H)) = lsN r := by rcases r with (_ | l) | _ | _ <;> rfl
  rw [e2, e3] at this
  exact this
theorem hs_split {a0 a1 a2 a3 a4 a5 a6 a7 a8 c : Int} {n : Nat} {W : List Int} {r : HR} (h : hsR a0 a1 a2 a3 a4 a5 a6 a7 a8 c n W = r) :
    (¬ (rightB a0 a1 a2 a3 a4 a5 a6 a7 a8 = true ∧ 0 ≤ c ∧ c ≤ 1) ∧ r = .code 1) ∨ (rightB a0 a1 a2 a3 a4 a5 a6 a7 a8 = true ∧ 0 ≤ c ∧ c ≤ 1 ∧ ¬ (n : Int) = sizeV a0 a1 a2 a4 a5 a6 a7 ∧ r = .code 23) ∨
    (rightB a0 a1 a2 a3 a4 a5 a6 a7 a8 = true ∧ (c = 0 ∨ c = 1) ∧ (n : Int) = sizeV a0 a1 a2 a4 a5 a6 a7 ∧ r = hlR a0 a1 a2 a4 a5 a6 a7 c W ∧ isCode r = false) := by
  unfold hsR at h
  split at h
  · rename_i h1
    obtain ⟨h1, h2, h3⟩ := h1
    split at h
    · rename_i h4
      exact .inr (.inr ⟨h1, by omega, h4, h.symm, by rw [← h]; exact hl_ncode⟩)
    · rename_i h4
      exact .inr (.inl ⟨h1, h2, h3, h4, h.symm⟩)
  · rename_i h1
    exact .inl ⟨h1, h.symm⟩
/-- A list of words that are wholly there, or not asked. -/
def lsOb (r : HR) (n m : Nat) (W : List Int) : Prop := (n = W.length ∧ m = n ∧ InU W) ∨ isCode r = true
def lsS (r : HR) : Hx.Spec := fun args H => match args with
  | [.agg [.int .i64 a0, .int .i64 a1, .int .i64 a2, .int .i64 a3, .int .i64 a4, .int .i64 a5, .int .i64 a6, .int .i64 a7, .int .i64 a8], .slice h 0 n m, .int .i64 c] => match getH H h, nums[H.length]? with
    | some (.ints .u64 W 43), some k => some ([hsR a0 a1 a2 a3 a4 a5 a6 a7 a8 c n W = r, lsOb r n m W], lsP k r, H ++ lsN r)
    | _, _ => none
  | [.agg [.int .i64 a0, .int .i64 a1, .int .i64 a2, .int .i64 a3, .int .i64 a4, .int .i64 a5, .int .i64 a6, .int .i64 a7, .int .i64 a8], .sbuf h 1 0 n, .int .i64 c] => match getH H h, nums[H.length]? with
    | some (.buf .u64 W 1 43), some k => some ([hsR a0 a1 a2 a3 a4 a5 a6 a7 a8 c n W = r, isCode r = true], lsP k r, H ++ lsN r)
    | _, _ => none
  | _ => none
theorem lsS_ok {r : HR} {args : List SV} {H : List HE} {ob : List Prop} {V : SV} {L : List HE} (hs : lsS r args H = some (ob, V, L)) (ho : AllP ob) : Gives Tryd.prog 11 args H (Is V L) := by
  unfold lsS at hs
  split at hs
  · rename_i _ a0 a1 a2 a3 a4 a5 a6 a7 a8 h n m c
    split at hs
    case h_2 => simp at hs
    rename_i _ _ W k hg hk
    have hk' := nums_get _ _ hk
    subst hk'
    simp only [Option.some.injEq, Prod.mk.injEq] at hs
    obtain ⟨rfl, rfl, rfl⟩ := hs
    have o1 := ho _ (List.mem_cons_self ..)
    have o2 := ho _ (List.mem_cons_of_mem _ (List.mem_cons_self ..))
    rcases hs_split o1 with ⟨q, rfl⟩ | ⟨q1, q2, q3, q4, rfl⟩ | ⟨q1, q2, q3, q4, q5⟩
    · exact ls_frame (x := .slice 0 0 n m) (hl_arg_a q) rfl rfl rfl hg rfl
    · exact ls_frame (x := .slice 0 0 n m) (hl_range_a q1 q2 q3 q4) rfl rfl rfl hg rfl
    · rcases o2 with ⟨rfl, rfl, o4⟩ | o2
      · subst q4
        rcases q2 with rfl | rfl
        · exact ls_frame (x := .slice 0 0 W.length W.length) (hl_fn0 q1 q3 (fun x hx => (o4 x hx).1) fun x hx => (o4 x hx).2) rfl rfl rfl hg rfl
        · exact ls_frame (x := .slice 0 0 W.length W.length) (hl_fn1 q1 q3 (fun x hx => (o4 x hx).1) fun x hx => (o4 x hx).2) rfl rfl rfl hg rfl
      · rw [q5] at o2; simp at o2
  · rename_i _ a0 a1 a2 a3 a4 a5 a6 a7 a8 h n c
    split at hs
    case h_2 => simp at hs
    rename_i _ _ W k hg hk
    have hk' := nums_get _ _ hk
    subst hk'
    simp only [Option.some.injEq, Prod.mk.injEq] at hs
    obtain ⟨rfl, rfl, rfl⟩ := hs
    have o1 := ho _ (List.mem_cons_self ..)
    have o2 := ho _ (List.mem_cons_of_mem _ (List.mem_cons_self ..))
    rcases hs_split o1 with ⟨q, rfl⟩ | ⟨q1, q2, q3, q4, rfl⟩ | ⟨q1, q2, q3, q4, q5⟩
    · exact ls_frame (x := .sbuf 0 1 0 n) (hl_arg_b q) rfl rfl rfl hg rfl
    · exact ls_frame (x := .sbuf 0 1 0 n) (hl_range_b q1 q2 q3 q4) rfl rfl rfl hg rfl
    · rw [q5] at o2; simp at o2
  · simp at hs
/-- Which of two. -/
def selR (r0 r1 : HR) : Int → HR
  | .ofNat n => match n with
    | 0 => r0
    | _ => r1
  | .negSucc _ => r1
theorem sel0 (r0 r1 : HR) : selR r0 r1 0 = r0 := rfl
theorem sel1 (r0 r1 : HR) : selR r0 r1 1 = r1 := rfl
def lsS2 (r0 r1 : HR) : Hx.Spec := fun args H => match args with
  | [x, y, .int .i64 c] => lsS (selR r0 r1 c) [x, y, .int .i64 c] H
  | _ => none
theorem lsS2_ok {r0 r1 : HR} {args : List SV} {H : List HE} {ob : List Prop} {V : SV} {L : List HE} (hs : lsS2 r0 r1 args H = some (ob, V, L)) (ho : AllP ob) : Gives Tryd.prog 11 args H (Is V L) := by
  unfold lsS2 at hs
  split at hs
  · exact lsS_ok hs ho
  · simp at hs
/-! Two rows of numbers, compared. -/
abbrev IR (l : List Int) : HE := .obj (.ints .i64 l 3)
theorem take_succ_eq {A B : List Int} {i : Nat} (ha : i < A.length) (hb : i < B.length) (h : A.take i = B.take i) (he : A.getD i 0 = B.getD i 0) : A.take (i + 1) = B.take (i + 1) := by
  rw [List.take_add_one, List.take_add_one, h]
  have e1 : A[i]? = some (A.getD i 0) := by rw [List.getD_eq_getElem?_getD, List.getElem?_eq_getElem ha]; rfl
  have e2 : B[i]? = some (B.getD i 0) := by rw [List.getD_eq_getElem?_getD, List.getElem?_eq_getElem hb]; rfl
  rw [e1, e2, he]
def smT0 (A B : List Int) : Nat → List (Nat × SV)
  | i => [(0, .sbuf 0 1 0 A.length), (1, .slice 1 0 B.length B.length), (5, .int .i64 (i : Int))]
theorem sm_fn0 (A B : List Int) (hA : A.length < 1000000) (_hB : B.length < 1000000) : Gives Tryd.prog 26 [.sbuf 0 1 0 A.length, .slice 1 0 B.length B.length] [IB A, IR B] (Is (.bool (decide (A = B))) [IB A, IR B]) := by
  refine gives_x hXS1 (fn := Tryd.f26) rfl rfl rfl rfl fun ρ w => ?_
  by_cases hl : A.length = B.length
  · refine sxb hXS1 [.l] [.F] 400 rfl (by simp [conjP, hl]) ?_
    refine ss_sub hXS1 (T' := smT0 A B 0) (H' := [IB A, IR B]) [0, 1] rfl rfl rfl rfl (by (repeat' (first | exact rfl | exact trivial | exact sim_refl _ | refine And.intro ?_ ?_))) (by (repeat' (first | exact rfl | exact trivial | exact sim_refl _ | refine And.intro ?_ ?_))) (by (repeat' (first | exact rfl | exact trivial | exact sim_refl _ | refine And.intro ?_ ?_))) (by (repeat' (first | exact rfl | exact trivial | exact sim_refl _ | refine And.intro ?_ ?_))) ?_
    refine ss_loop hXS1 (smT0 A B) (fun _ => [IB A, IR B]) (fun i => i ≤ A.length ∧ A.take i = B.take i) (fun i => A.length - i) 0 ⟨Nat.zero_le _, by simp⟩ ?_
    rintro i ⟨hi, ht⟩ I back
    by_cases hi2 : i < A.length
    · have hi3 : i < B.length := by omega
      by_cases he : A.getD i 0 = B.getD i 0
      · refine sx hXS1 [] 400 rfl (by (simp [-List.getD_eq_getElem?_getD, -List.length_eq_zero_iff, conjP] <;> (first | omega | ((repeat' (refine And.intro ?_ ?_)) <;> (first | omega | exact decide_eq_false (by omega) | exact decide_eq_true (by omega)))))) ?_
        refine sx hXS1 [.T] 400 rfl (by (simp [-List.getD_eq_getElem?_getD, -List.length_eq_zero_iff, conjP, hi2, hi3, cellOff] <;> (first | omega | ((repeat' (refine And.intro ?_ ?_)) <;> (first | omega | exact decide_eq_false (by omega) | exact decide_eq_true (by omega)))))) ?_
        refine sx hXS1 [.F] 400 rfl (by (simp [-List.getD_eq_getElem?_getD, -List.length_eq_zero_iff, conjP, addOP, cellOff, he] <;> (first | omega | ((repeat' (refine And.intro ?_ ?_)) <;> (first | omega | exact decide_eq_false (by omega) | exact decide_eq_true (by omega)))))) ?_
        (refine back (i + 1) ⟨by omega, take_succ_eq hi2 hi3 ht he⟩ (by omega) _ _ _ (sub_of [0, 1] rfl rfl rfl rfl ⟨by (repeat' (first | exact rfl | exact trivial | exact sim_refl _ | refine And.intro ?_ ?_)), by (repeat' (first | exact rfl | exact trivial | exact sim_refl _ | refine And.intro ?_ ?_)), ⟨rfl, wi64 (by omega) (by omega)⟩, trivial⟩ (by (repeat' (first | exact rfl | exact trivial | exact sim_refl _ | refine And.intro ?_ ?_))) (by (repeat' (first | exact rfl | exact trivial | exact sim_refl _ | refine And.intro ?_ ?_))) (by (repeat' (first | exact rfl | exact trivial | exact sim_refl _ | refine And.intro ?_ ?_)))))
      · have hne : ¬ A = B := fun h => he (by rw [h])
        refine sx hXS1 [] 400 rfl (by (simp [-List.getD_eq_getElem?_getD, -List.length_eq_zero_iff, conjP] <;> (first | omega | ((repeat' (refine And.intro ?_ ?_)) <;> (first | omega | exact decide_eq_false (by omega) | exact decide_eq_true (by omega)))))) ?_
        refine sx hXS1 [.T] 400 rfl (by (simp [-List.getD_eq_getElem?_getD, -List.length_eq_zero_iff, conjP, hi2, hi3, cellOff] <;> (first | omega | ((repeat' (refine And.intro ?_ ?_)) <;> (first | omega | exact decide_eq_false (by omega) | exact decide_eq_true (by omega)))))) ?_
        refine sx hXS1 [.T] 400 rfl (by (simp [-List.getD_eq_getElem?_getD, -List.length_eq_zero_iff, conjP, addOP, cellOff, he] <;> (first | omega | ((repeat' (refine And.intro ?_ ?_)) <;> (first | omega | exact decide_eq_false (by omega) | exact decide_eq_true (by omega)))))) ?_
        (refine ss_end hXS1 [0, 1] rfl rfl trivial rfl rfl rfl rfl ?hv (by (repeat' (first | exact rfl | exact trivial | exact sim_refl _ | refine And.intro ?_ ?_))) (by (repeat' (first | exact rfl | exact trivial | exact sim_refl _ | refine And.intro ?_ ?_))) (by (repeat' (first | exact rfl | exact trivial | exact sim_refl _ | refine And.intro ?_ ?_))); (case hv => rw [decide_eq_false hne]; exact rfl))
    · have hAB : A = B := by
        have e : i = A.length := by omega
        rw [e, List.take_length, hl, List.take_length] at ht
        exact ht
      refine sx hXS1 [] 400 rfl (by (simp [-List.getD_eq_getElem?_getD, -List.length_eq_zero_iff, conjP] <;> (first | omega | ((repeat' (refine And.intro ?_ ?_)) <;> (first | omega | exact decide_eq_false (by omega) | exact decide_eq_true (by omega)))))) ?_
      refine sx hXS1 [.F] 400 rfl (by (simp [-List.getD_eq_getElem?_getD, -List.length_eq_zero_iff, conjP, addOP, hi2] <;> (first | omega | ((repeat' (refine And.intro ?_ ?_)) <;> (first | omega | exact decide_eq_false (by omega) | exact decide_eq_true (by omega)))))) ?_
      (refine ss_end hXS1 [0, 1] rfl rfl trivial rfl rfl rfl rfl ?hv (by (repeat' (first | exact rfl | exact trivial | exact sim_refl _ | refine And.intro ?_ ?_))) (by (repeat' (first | exact rfl | exact trivial | exact sim_refl _ | refine And.intro ?_ ?_))) (by (repeat' (first | exact rfl | exact trivial | exact sim_refl _ | refine And.intro ?_ ?_))); (case hv => rw [decide_eq_true hAB]; exact rfl))
  · have hne : ¬ A = B := fun h => hl (by rw [h])
    refine sx hXS1 [] 400 rfl (by (simp [-List.getD_eq_getElem?_getD, -List.length_eq_zero_iff, conjP] <;> (first | omega | ((repeat' (refine And.intro ?_ ?_)) <;> (first | omega | exact decide_eq_false (by omega) | exact decide_eq_true (by omega)))))) ?_
    refine sx hXS1 [.T] 400 rfl (by (simp [-List.getD_eq_getElem?_getD, -List.length_eq_zero_iff, conjP, addOP] <;> (first | omega | ((repeat' (refine And.intro ?_ ?_)) <;> (first | omega | exact decide_eq_false (by omega) | exact decide_eq_true (by omega)))))) ?_
    (refine ss_end hXS1 [0, 1] rfl rfl trivial rfl rfl rfl rfl ?hv (by (repeat' (first | exact rfl | exact trivial | exact sim_refl _ | refine And.intro ?_ ?_))) (by (repeat' (first | exact rfl | exact trivial | exact sim_refl _ | refine And.intro ?_ ?_))) (by (repeat' (first | exact rfl | exact trivial | exact sim_refl _ | refine And.intro ?_ ?_))); (case hv => rw [decide_eq_false hne]; exact rfl))
def smT1 (A B : List Int) : Nat → List (Nat × SV)
  | i => [(0, .sbuf 0 1 0 A.length), (1, .sbuf 1 1 0 B.length), (5, .int .i64 (i : Int))]
theorem sm_fn1 (A B : List Int) (hA : A.length < 1000000) (_hB : B.length < 1000000) : Gives Tryd.prog 26 [.sbuf 0 1 0 A.length, .sbuf 1 1 0 B.length] [IB A, IB B] (Is (.bool (decide (A = B))) [IB A, IB B]) := by
  refine gives_x hXS1 (fn := Tryd.f26) rfl rfl rfl rfl fun ρ w => ?_
  by_cases hl : A.length = B.length
  · refine sxb hXS1 [.l] [.F] 400 rfl (by simp [conjP, hl]) ?_
    refine ss_sub hXS1 (T' := smT1 A B 0) (H' := [IB A, IB B]) [0, 1] rfl rfl rfl rfl (by (repeat' (first | exact rfl | exact trivial | exact sim_refl _ | refine And.intro ?_ ?_))) (by (repeat' (first | exact rfl | exact trivial | exact sim_refl _ | refine And.intro ?_ ?_))) (by (repeat' (first | exact rfl | exact trivial | exact sim_refl _ | refine And.intro ?_ ?_))) (by (repeat' (first | exact rfl | exact trivial | exact sim_refl _ | refine And.intro ?_ ?_))) ?_
    refine ss_loop hXS1 (smT1 A B) (fun _ => [IB A, IB B]) (fun i => i ≤ A.length ∧ A.take i = B.take i) (fun i => A.length - i) 0 ⟨Nat.zero_le _, by simp⟩ ?_
    rintro i ⟨hi, ht⟩ I back
    by_cases hi2 : i < A.length
    · have hi3 : i < B.length := by omega
      by_cases he : A.getD i 0 = B.getD i 0
      · refine sx hXS1 [] 400 rfl (by (simp [-List.getD_eq_getElem?_getD, -List.length_eq_zero_iff, conjP] <;> (first | omega | ((repeat' (refine And.intro ?_ ?_)) <;> (first | omega | exact decide_eq_false (by omega) | exact decide_eq_true (by omega)))))) ?_
        refine sx hXS1 [.T] 400 rfl (by (simp [-List.getD_eq_getElem?_getD, -List.length_eq_zero_iff, conjP, hi2, hi3, cellOff] <;> (first | omega | ((repeat' (refine And.intro ?_ ?_)) <;> (first | omega | exact decide_eq_false (by omega) | exact decide_eq_true (by omega)))))) ?_
        refine sx hXS1 [.F] 400 rfl (by (simp [-List.getD_eq_getElem?_getD, -List.length_eq_zero_iff, conjP, addOP, cellOff, he] <;> (first | omega | ((repeat' (refine And.intro ?_ ?_)) <;> (first | omega | exact decide_eq_false (by omega) | exact decide_eq_true (by omega)))))) ?_
        (refine back (i + 1) ⟨by omega, take_succ_eq hi2 hi3 ht he⟩ (by omega) _ _ _ (sub_of [0, 1] rfl rfl rfl rfl ⟨by (repeat' (first | exact rfl | exact trivial | exact sim_refl _ | refine And.intro ?_ ?_)), by (repeat' (first | exact rfl | exact trivial | exact sim_refl _ | refine And.intro ?_ ?_)), ⟨rfl, wi64 (by omega) (by omega)⟩, trivial⟩ (by (repeat' (first | exact rfl | exact trivial | exact sim_refl _ | refine And.intro ?_ ?_))) (by (repeat' (first | exact rfl | exact trivial | exact sim_refl _ | refine And.intro ?_ ?_))) (by (repeat' (first | exact rfl | exact trivial | exact sim_refl _ | refine And.intro ?_ ?_)))))
      · have hne : ¬ A = B := fun h => he (by rw [h])
        refine sx hXS1 [] 400 rfl (by (simp [-List.getD_eq_getElem?_getD, -List.length_eq_zero_iff, conjP] <;> (first | omega | ((repeat' (refine And.intro ?_ ?_)) <;> (first | omega | exact decide_eq_false (by omega) | exact decide_eq_true (by omega)))))) ?_
        refine sx hXS1 [.T] 400 rfl (by (simp [-List.getD_eq_getElem?_getD, -List.length_eq_zero_iff, conjP, hi2, hi3, cellOff] <;> (first | omega | ((repeat' (refine And.intro ?_ ?_)) <;> (first | omega | exact decide_eq_false (by omega) | exact decide_eq_true (by omega)))))) ?_
        refine sx hXS1 [.T] 400 rfl (by (simp [-List.getD_eq_getElem?_getD, -List.length_eq_zero_iff, conjP, addOP, cellOff, he] <;> (first | omega | ((repeat' (refine And.intro ?_ ?_)) <;> (first | omega | exact decide_eq_false (by omega) | exact decide_eq_true (by omega)))))) ?_
        (refine ss_end hXS1 [0, 1] rfl rfl trivial rfl rfl rfl rfl ?hv (by (repeat' (first | exact rfl | exact trivial | exact sim_refl _ | refine And.intro ?_ ?_))) (by (repeat' (first | exact rfl | exact trivial | exact sim_refl _ | refine And.intro ?_ ?_))) (by (repeat' (first | exact rfl | exact trivial | exact sim_refl _ | refine And.intro ?_ ?_))); (case hv => rw [decide_eq_false hne]; exact rfl))
    · have hAB : A = B := by
        have e : i = A.length := by omega
        rw [e, List.take_length, hl, List.take_length] at ht
        exact ht
      refine sx hXS1 [] 400 rfl (by (simp [-List.getD_eq_getElem?_getD, -List.length_eq_zero_iff, conjP] <;> (first | omega | ((repeat' (refine And.intro ?_ ?_)) <;> (first | omega | exact decide_eq_false (by omega) | exact decide_eq_true (by omega)))))) ?_
      refine sx hXS1 [.F] 400 rfl (by (simp [-List.getD_eq_getElem?_getD, -List.length_eq_zero_iff, conjP, addOP, hi2] <;> (first | omega | ((repeat' (refine And.intro ?_ ?_)) <;> (first | omega | exact decide_eq_false (by omega) | exact decide_eq_true (by omega)))))) ?_
      (refine ss_end hXS1 [0, 1] rfl rfl trivial rfl rfl rfl rfl ?hv (by (repeat' (first | exact rfl | exact trivial | exact sim_refl _ | refine And.intro ?_ ?_))) (by (repeat' (first | exact rfl | exact trivial | exact sim_refl _ | refine And.intro ?_ ?_))) (by (repeat' (first | exact rfl | exact trivial | exact sim_refl _ | refine And.intro ?_ ?_))); (case hv => rw [decide_eq_true hAB]; exact rfl))
  · have hne : ¬ A = B := fun h => hl (by rw [h])
    refine sx hXS1 [] 400 rfl (by (simp [-List.getD_eq_getElem?_getD, -List.length_eq_zero_iff, conjP] <;> (first | omega | ((repeat' (refine And.intro ?_ ?_)) <;> (first | omega | exact decide_eq_false (by omega) | exact decide_eq_true (by omega)))))) ?_
    refine sx hXS1 [.T] 400 rfl (by (simp [-List.getD_eq_getElem?_getD, -List.length_eq_zero_iff, conjP, addOP] <;> (first | omega | ((repeat' (refine And.intro ?_ ?_)) <;> (first | omega | exact decide_eq_false (by omega) | exact decide_eq_true (by omega)))))) ?_
    (refine ss_end hXS1 [0, 1] rfl rfl trivial rfl rfl rfl rfl ?hv (by (repeat' (first | exact rfl | exact trivial | exact sim_refl _ | refine And.intro ?_ ?_))) (by (repeat' (first | exact rfl | exact trivial | exact sim_refl _ | refine And.intro ?_ ?_))) (by (repeat' (first | exact rfl | exact trivial | exact sim_refl _ | refine And.intro ?_ ?_))); (case hv => rw [decide_eq_false hne]; exact rfl))
theorem sm_nil : Gives Tryd.prog 26 [.nilslice, .nilslice] [] (Is .tt []) := by
  refine gives_x hXS1 (fn := Tryd.f26) rfl rfl rfl rfl fun ρ w => ?_
  refine sx hXS1 [] 400 rfl (by (simp [-List.getD_eq_getElem?_getD, -List.length_eq_zero_iff, conjP] <;> (first | omega | ((repeat' (refine And.intro ?_ ?_)) <;> (first | omega | exact decide_eq_false (by omega) | exact decide_eq_true (by omega)))))) ?_
  refine sx hXS1 [.F] 400 rfl (by (simp [-List.getD_eq_getElem?_getD, -List.length_eq_zero_iff, conjP, addOP] <;> (first | omega | ((repeat' (refine And.intro ?_ ?_)) <;> (first | omega | exact decide_eq_false (by omega) | exact decide_eq_true (by omega)))))) ?_
  refine sx hXS1 [.F] 400 rfl (by (simp [-List.getD_eq_getElem?_getD, -List.length_eq_zero_iff, conjP, addOP] <;> (first | omega | ((repeat' (refine And.intro ?_ ?_)) <;> (first | omega | exact decide_eq_false (by omega) | exact decide_eq_true (by omega)))))) ?_
  (exact ss_end hXS1 [] rfl rfl trivial rfl rfl rfl rfl (by (repeat' (first | exact rfl | exact trivial | exact sim_refl _ | refine And.intro ?_ ?_))) (by (repeat' (first | exact rfl | exact trivial | exact sim_refl _ | refine And.intro ?_ ?_))) (by (repeat' (first | exact rfl | exact trivial | exact sim_refl _ | refine And.intro ?_ ?_))) (by (repeat' (first | exact rfl | exact trivial | exact sim_refl _ | refine And.intro ?_ ?_))))
def smS : Hx.Spec := fun args H => match args with
  | [.nilslice, .nilslice] => some ([], .tt, H)
  | [.sbuf h 1 0 l, .slice h2 0 l2 c] => match getH H h, getH H h2, nodupN [h, h2] with
    | some (.buf .i64 A 1 3), some (.ints .i64 B 3), true => some ([l = A.length, l2 = B.length, c = B.length, A.length < 1000000, B.length < 1000000], .bool (decide (A = B)), H)
    | _, _, _ => none
  | [.sbuf h 1 0 l, .sbuf h2 1 0 l2] => match getH H h, getH H h2, nodupN [h, h2] with
    | some (.buf .i64 A 1 3), some (.buf .i64 B 1 3), true => some ([l = A.length, l2 = B.length, A.length < 1000000, B.length < 1000000], .bool (decide (A = B)), H)
    | _, _, _ => none
  | _ => none
theorem smS_ok {args : List SV} {H : List HE} {ob : List Prop} {V : SV} {L : List HE} (hs : smS args H = some (ob, V, L)) (ho : AllP ob) : Gives Tryd.prog 26 args H (Is V L) := by
  unfold smS at hs
  split at hs
  · simp only [Option.some.injEq, Prod.mk.injEq] at hs
    obtain ⟨rfl, rfl, rfl⟩ := hs
    have := frame0 (H := H) ⟨_, hTE⟩ sm_nil rfl rfl
    simpa [SV.ren] using this
  · rename_i _ h l h2 l2 c
    split at hs
    · rename_i _ _ _ A B g1 g2 hn
      simp only [Option.some.injEq, Prod.mk.injEq] at hs
      obtain ⟨rfl, rfl, rfl⟩ := hs
      simp only [AllP, List.mem_cons, List.not_mem_nil, or_false, forall_eq_or_imp, forall_eq] at ho
      obtain ⟨rfl, rfl, rfl, o4, o5⟩ := ho
      have := frame2n (H := H) (h0 := h) (h1 := h2) ⟨_, hTE⟩ (sm_fn0 A B o4 o5) rfl rfl rfl hn g1 g2 rfl rfl rfl
      rw [show (H.set h (.obj (SO.ren (nm [h, h2] H) (.buf .i64 A 1 3)))) = H from set_self g1] at this
      rw [show (H.set h2 (.obj (SO.ren (nm [h, h2] H) (.ints .i64 B 3)))) = H from set_self g2] at this
      exact this
    · simp at hs
  · rename_i _ h l h2 l2
    split at hs
    · rename_i _ _ _ A B g1 g2 hn
      simp only [Option.some.injEq, Prod.mk.injEq] at hs
      obtain ⟨rfl, rfl, rfl⟩ := hs
      simp only [AllP, List.mem_cons, List.not_mem_nil, or_false, forall_eq_or_imp, forall_eq] at ho
      obtain ⟨rfl, rfl, o4, o5⟩ := ho
      have := frame2n (H := H) (h0 := h) (h1 := h2) ⟨_, hTE⟩ (sm_fn1 A B o4 o5) rfl rfl rfl hn g1 g2 rfl rfl rfl
      rw [show (H.set h (.obj (SO.ren (nm [h, h2] H) (.buf .i64 A 1 3)))) = H from set_self g1] at this
      rw [show (H.set h2 (.obj (SO.ren (nm [h, h2] H) (.buf .i64 B 1 3)))) = H from set_self g2] at this
      exact this
    · simp at hs
  · simp at hs
end Go.Proofs.YtfdkaakllceebaaDoor
