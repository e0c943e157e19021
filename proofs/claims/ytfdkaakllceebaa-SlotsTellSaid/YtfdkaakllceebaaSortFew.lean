/- slices.Sort of a few numbers: what it makes. -/
import Derived.Test.YtfdkaakllceebaaSlotWords
import Derived.Test.YtfdkaakllceebaaHyc
namespace Go.Proofs.Ytfdkaakllceebaa
open Go Go.Hx
set_option maxRecDepth 8000
def swp (l : List Int) (j : Nat) : List Int := (l.set j (l.getD (j - 1) 0)).set (j - 1) (l.getD j 0)
def insJ : Nat → List Int → List Int
  | 0, l => l
  | j + 1, l => if l.getD (j + 1) 0 < l.getD j 0 then insJ j (swp l (j + 1)) else l
def insI : Nat → List Int → List Int
  | 0, l => l
  | i + 1, l => insJ (i + 1) (insI i l)
/-- Sorted. -/
def srt (l : List Int) : List Int := insI (l.length - 1) l
theorem swp_len (l : List Int) (j : Nat) : (swp l j).length = l.length := by simp [swp]
theorem insJ_len : ∀ (j : Nat) (l : List Int), (insJ j l).length = l.length
  | 0, _ => rfl
  | j + 1, l => by
    rw [insJ]
    split
    · rw [insJ_len, swp_len]
    · rfl
theorem insI_len : ∀ (i : Nat) (l : List Int), (insI i l).length = l.length
  | 0, _ => rfl
  | i + 1, l => by rw [insI, insJ_len, insI_len]
theorem srt_len (l : List Int) : (srt l).length = l.length := insI_len _ _
theorem swp_get {l : List Int} {j : Nat} (h : j + 1 < l.length) (i : Nat) : (swp l (j + 1)).getD i 0 = if i = j then l.getD (j + 1) 0 else if i = j + 1 then l.getD j 0 else l.getD i 0 := by
  simp only [swp, Nat.add_sub_cancel]
  rw [set_getD, set_getD, List.length_set]
  by_cases e1 : i = j
  · subst e1; simp; omega
  · by_cases e2 : i = j + 1
    · subst e2; simp; omega
    · simp [e1, e2, Ne.symm e1, Ne.symm e2]
theorem swp_perm {l : List Int} {j : Nat} (h : j + 1 < l.length) : (swp l (j + 1)).Perm l := by
  have h0 : j < l.length := by omega
  have e1 : l = l.take j ++ l.getD j 0 :: l.getD (j + 1) 0 :: l.drop (j + 2) := by
    have a : l.getD j 0 = l[j] := by rw [List.getD_eq_getElem?_getD, List.getElem?_eq_getElem h0]; rfl
    have b : l.getD (j + 1) 0 = l[j + 1] := by rw [List.getD_eq_getElem?_getD, List.getElem?_eq_getElem h]; rfl
    rw [a, b, ← List.drop_eq_getElem_cons h, ← List.drop_eq_getElem_cons h0, List.take_append_drop]
  have hp : (l.take j).length = j := by rw [List.length_take]; omega
  have e2 : swp l (j + 1) = l.take j ++ l.getD (j + 1) 0 :: l.getD j 0 :: l.drop (j + 2) := by
    generalize ha : l.getD j 0 = x at e1 ⊢
    generalize hb : l.getD (j + 1) 0 = y at e1 ⊢
    unfold swp
    rw [Nat.add_sub_cancel, ha, hb]
    generalize l.take j = pre at *
    generalize l.drop (j + 2) = post at *
    rw [e1]
    subst hp
    simp
  rw [e2]
  exact (List.Perm.append_left _ (List.Perm.swap ..)).trans (List.Perm.of_eq e1.symm)
theorem insJ_perm : ∀ (j : Nat) (l : List Int), j < l.length → (insJ j l).Perm l
  | 0, _, _ => List.Perm.refl _
  | j + 1, l, h => by
    rw [insJ]
    split
    · exact (insJ_perm j _ (by rw [swp_len]; omega)).trans (swp_perm h)
    · exact List.Perm.refl _
theorem insI_perm : ∀ (i : Nat) (l : List Int), i < l.length ∨ i = 0 → (insI i l).Perm l
  | 0, _, _ => List.Perm.refl _
  | i + 1, l, h => by
    rw [insI]
    exact (insJ_perm _ _ (by rw [insI_len]; omega)).trans (insI_perm i l (by omega))
theorem srt_perm (l : List Int) : (srt l).Perm l := insI_perm _ _ (by omega)
/-- In order, to a place. -/
def UpTo (i : Nat) (l : List Int) : Prop := ∀ a b, a < b → b ≤ i → l.getD a 0 ≤ l.getD b 0
def UpJ (i j : Nat) (l : List Int) : Prop := (∀ a b, a < b → b ≤ i → a ≠ j → b ≠ j → l.getD a 0 ≤ l.getD b 0) ∧ ∀ b, j < b → b ≤ i → l.getD j 0 ≤ l.getD b 0
theorem insJ_up {i : Nat} : ∀ (j : Nat) (l : List Int), i < l.length → j ≤ i → UpJ i j l → UpTo i (insJ j l)
  | 0, l, _, _, h => fun a b h1 h2 => by
    rw [insJ]
    by_cases e : a = 0
    · subst e; exact h.2 b h1 h2
    · exact h.1 a b h1 h2 e (by omega)
  | j + 1, l, hl, hj, h => by
    rw [insJ]
    obtain ⟨h1, h2⟩ := h
    split
    · rename_i hlt
      have g := swp_get (l := l) (j := j) (by omega)
      refine insJ_up j _ (by rw [swp_len]; exact hl) (by omega) ⟨fun a b p q na nb => ?_, fun b p q => ?_⟩
      · rw [g, g, if_neg na, if_neg nb]
        by_cases ea : a = j + 1
        · subst ea
          rw [if_pos rfl, if_neg (by omega)]
          exact h1 j b (by omega) q (by omega) (by omega)
        · rw [if_neg ea]
          by_cases eb : b = j + 1
          · subst eb
            rw [if_pos rfl]
            exact h1 a j (by omega) (by omega) ea (by omega)
          · rw [if_neg eb]
            exact h1 a b p q ea eb
      · rw [g, g, if_pos rfl, if_neg (by omega)]
        by_cases eb : b = j + 1
        · subst eb
          rw [if_pos rfl]
          omega
        · rw [if_neg eb]
          exact h2 b (by omega) q
    · rename_i hge
      intro a b p q
      by_cases ea : a = j + 1
      · subst ea; exact h2 b p q
      · by_cases eb : b = j + 1
        · subst eb
          by_cases e3 : a = j
          · subst e3; omega
          · exact Int.le_trans (h1 a j (by omega) (by omega) ea (by omega)) (Int.not_lt.1 hge)
        · exact h1 a b p q ea eb
theorem insI_up : ∀ (i : Nat) (l : List Int), i < l.length → UpTo i (insI i l)
  | 0, l, _ => fun a b h1 h2 => by omega
  | i + 1, l, h => by
    rw [insI]
    have ih := insI_up i l (by omega)
    refine insJ_up (i + 1) _ (by rw [insI_len]; exact h) (Nat.le_refl _) ⟨fun a b p q na nb => ih a b p (by omega), fun b p q => by omega⟩
theorem srt_up {l : List Int} {a b : Nat} (h1 : a < b) (h2 : b < l.length) : (srt l).getD a 0 ≤ (srt l).getD b 0 := insI_up (l.length - 1) l (by omega) a b h1 (by omega)
/-! The walk. -/
set_option maxHeartbeats 4000000 in
theorem less_fn (x y : Int) : Gives Try.prog 98 [.int .i64 x, .int .i64 y] [] (Is (.bool (decide (x < y))) []) := by
  refine gives_x hXR (fn := Try.f98) rfl rfl rfl rfl fun ρ w => ?_
  by_cases h : x < y
  · refine sx hXR [] 400 rfl (by (simp [-List.getD_eq_getElem?_getD, -List.length_eq_zero_iff, conjP])) ?_
    refine sx hXR [.F] 400 rfl (by (simp [-List.getD_eq_getElem?_getD, -List.length_eq_zero_iff, conjP, addOP])) ?_
    (refine ss_end hXR [] rfl rfl trivial rfl rfl rfl rfl ?hv (by (repeat' (first | exact rfl | exact trivial | exact sim_refl _ | refine And.intro ?_ ?_))) (by (repeat' (first | exact rfl | exact trivial | exact sim_refl _ | refine And.intro ?_ ?_))) (by (repeat' (first | exact rfl | exact trivial | exact sim_refl _ | refine And.intro ?_ ?_))); (case hv => first | (rw [decide_eq_true h]; exact rfl) | simp [tupF, SV.ren, sim, h]))
  · refine sx hXR [] 400 rfl (by (simp [-List.getD_eq_getElem?_getD, -List.length_eq_zero_iff, conjP])) ?_
    refine sx hXR [.F] 400 rfl (by (simp [-List.getD_eq_getElem?_getD, -List.length_eq_zero_iff, conjP, addOP])) ?_
    (refine ss_end hXR [] rfl rfl trivial rfl rfl rfl rfl ?hv (by (repeat' (first | exact rfl | exact trivial | exact sim_refl _ | refine And.intro ?_ ?_))) (by (repeat' (first | exact rfl | exact trivial | exact sim_refl _ | refine And.intro ?_ ?_))) (by (repeat' (first | exact rfl | exact trivial | exact sim_refl _ | refine And.intro ?_ ?_))); (case hv => first | (rw [decide_eq_false h]; exact rfl) | simp [tupF, SV.ren, sim, h]))
def lessS : List SV → Option (List Prop × SV)
  | [.int .i64 x, .int .i64 y] => some ([], .bool (decide (x < y)))
  | _ => none
theorem lessS_ok : PureOk 98 lessS := by
  intro args ob V hs ho
  unfold lessS at hs
  split at hs
  · simp only [Option.some.injEq, Prod.mk.injEq] at hs
    obtain ⟨rfl, rfl⟩ := hs
    exact ⟨rfl, rfl, less_fn _ _⟩
  · simp at hs
def ctIs : Nat → Option Hx.Spec
  | 98 => some (pureS lessS)
  | _ => none
theorem ctIs_ok : ∀ f s args H ob V L, ctIs f = some s → s args H = some (ob, V, L) → AllP ob → Gives Try.prog f args H (Is V L) := by
  intro f s args H ob V L h hs ho
  unfold ctIs at h
  split at h
  · simp at h; subst h; exact pureS_ok ⟨_, hTE⟩ (lessS_ok) hs ho
  · simp at h
noncomputable def XIs : Tabs := tabs tr ft xt (fun _ => none) ctIs 0
theorem hXIs : TOk Try.prog (XIs) := ⟨hTE, hFT, ctIs_ok, hXT, fun t ks h => by simp [XIs, tabs] at h, mixed⟩
def isT (n : Nat) (i : Nat) : List (Nat × SV) := [(0, .sbuf 0 1 0 n), (1, .int .i64 0), (2, .int .i64 (n : Int)), (6, .int .i64 ((i + 1 : Nat) : Int))]
def isU (n : Nat) (i j : Nat) : List (Nat × SV) := [(0, .sbuf 0 1 0 n), (1, .int .i64 0), (2, .int .i64 (n : Int)), (6, .int .i64 ((i + 1 : Nat) : Int)), (7, .int .i64 (j : Int))]
set_option maxHeartbeats 8000000 in
theorem isort_fn (l : List Int) (h0 : 0 < l.length) (hl : l.length < 1000000) : Gives Try.prog 92 [.sbuf 0 1 0 l.length, .int .i64 0, .int .i64 l.length] [IB l] (Is (.tup []) [IB (srt l)]) := by
  refine gives_x hXIs (fn := Try.f92) rfl rfl rfl rfl fun ρ w => ?_
  refine sxb hXIs [.l] [] 400 rfl trivial ?_
  refine ss_sub hXIs (T' := isT l.length 0) (H' := [IB (insI 0 l)]) [0] rfl rfl rfl rfl (by (repeat' (first | exact rfl | exact trivial | exact sim_refl _ | refine And.intro ?_ ?_))) (by (repeat' (first | exact rfl | exact trivial | exact sim_refl _ | refine And.intro ?_ ?_))) (by (repeat' (first | exact rfl | exact trivial | exact sim_refl _ | refine And.intro ?_ ?_))) (by (repeat' (first | exact rfl | exact trivial | exact sim_refl _ | refine And.intro ?_ ?_))) ?_
  refine ss_loop hXIs (isT l.length) (fun i => [IB (insI i l)]) (fun i => i ≤ l.length - 1) (fun i => l.length - i) 0 (Nat.zero_le _) ?_
  intro i hi I back
  have hi : i ≤ l.length - 1 := hi
  by_cases h1 : i + 1 < l.length
  · have h2 : ((i + 1 : Nat) : Int) < (l.length : Int) := by omega
    refine sxb hXIs [.l] [.T] 400 rfl (by simp [conjP]; omega) ?_
    refine ss_sub hXIs (T' := isU l.length i (i + 1)) (H' := [IB (insI i l)]) [0] rfl rfl rfl rfl (by (repeat' (first | exact rfl | exact trivial | exact sim_refl _ | refine And.intro ?_ ?_))) (by (repeat' (first | exact rfl | exact trivial | exact sim_refl _ | refine And.intro ?_ ?_))) (by (repeat' (first | exact rfl | exact trivial | exact sim_refl _ | refine And.intro ?_ ?_))) (by (repeat' (first | exact rfl | exact trivial | exact sim_refl _ | refine And.intro ?_ ?_))) ?_
    refine ss_loop hXIs (fun x : Nat × List Int => isU l.length i x.1) (fun x => [IB x.2]) (fun x => x.1 ≤ i + 1 ∧ x.2.length = l.length ∧ insJ x.1 x.2 = insI (i + 1) l) (fun x => x.1) (i + 1, insI i l) ⟨Nat.le_refl _, insI_len _ _, rfl⟩ ?_
    rintro ⟨j, m⟩ ⟨j1, j2, j3⟩ I2 back2
    dsimp only at j1 j2 j3
    dsimp only
    cases j with
    | zero =>
      have j3 : m = insI (i + 1) l := j3
      refine sx hXIs [] 400 rfl (by (simp [-List.getD_eq_getElem?_getD, -List.length_eq_zero_iff, conjP])) ?_
      refine sx hXIs [.K, .F] 400 rfl (by (simp [-List.getD_eq_getElem?_getD, -List.length_eq_zero_iff, conjP])) ?_
      (refine back (i + 1) ?q1 ?q2 _ _ _ (sub_of [0] rfl rfl rfl rfl ⟨by (repeat' (first | exact rfl | exact trivial | exact sim_refl _ | refine And.intro ?_ ?_)), by (repeat' (first | exact rfl | exact trivial | exact sim_refl _ | refine And.intro ?_ ?_)), by (repeat' (first | exact rfl | exact trivial | exact sim_refl _ | refine And.intro ?_ ?_)), ⟨rfl, wi64 (by omega) (by omega)⟩, trivial⟩ ?hh (by (repeat' (first | exact rfl | exact trivial | exact sim_refl _ | refine And.intro ?_ ?_))) (by (repeat' (first | exact rfl | exact trivial | exact sim_refl _ | refine And.intro ?_ ?_)))); (case hh => rw [← j3]; (repeat' (first | exact rfl | exact trivial | exact sim_refl _ | refine And.intro ?_ ?_))); (case q1 => omega); (case q2 => omega))
    | succ j =>
      have a1 : j + 1 < m.length := by omega
      have a2 : j < m.length := by omega
      have a3 : (0 : Int) < ((j + 1 : Nat) : Int) := by omega
      have a4 : ((j + 1 : Nat) : Int) < (l.length : Int) := by omega
      have a5 : ((j + 1 : Nat) : Int) - 1 = (j : Int) := by omega
      have a6 : IntKind.i64.wrap (j : Int) = (j : Int) := wi64 (by omega) (by omega)
      have a7 : (((j + 1 : Nat) : Int)).toNat = j + 1 := by omega
      have a8 : ((j : Int)).toNat = j := by omega
      have a9 : (j : Int) < (l.length : Int) := by omega
      by_cases hlt : m.getD (j + 1) 0 < m.getD j 0
      · rw [insJ, if_pos hlt] at j3
        refine sx hXIs [] 400 rfl (by (simp [-List.getD_eq_getElem?_getD, -List.length_eq_zero_iff, conjP])) ?_
        refine sx hXIs [.K, .T] 400 rfl (by (simp [-List.getD_eq_getElem?_getD, -List.length_eq_zero_iff, conjP, a6, a8, a9, j2, cellOff] <;> (first | omega | ((repeat' (refine And.intro ?_ ?_)) <;> (first | omega | exact decide_eq_false (by omega) | exact decide_eq_true (by omega)))))) ?_
        refine sx hXIs [.T] 400 rfl (by (simp [-List.getD_eq_getElem?_getD, -List.length_eq_zero_iff, conjP, a6, a8, a9, j2, hlt, cellOff] <;> (first | omega | ((repeat' (refine And.intro ?_ ?_)) <;> (first | omega | exact decide_eq_false (by omega) | exact decide_eq_true (by omega)))))) ?_
        (refine back2 (j, swp m (j + 1)) ⟨?q1, ?q3, j3⟩ ?q2 _ _ _ (sub_of [0] rfl rfl rfl rfl ?tt ?hh (by (repeat' (first | exact rfl | exact trivial | exact sim_refl _ | refine And.intro ?_ ?_))) (by (repeat' (first | exact rfl | exact trivial | exact sim_refl _ | refine And.intro ?_ ?_)))); (case tt => exact ⟨by (repeat' (first | exact rfl | exact trivial | exact sim_refl _ | refine And.intro ?_ ?_)), by (repeat' (first | exact rfl | exact trivial | exact sim_refl _ | refine And.intro ?_ ?_)), by (repeat' (first | exact rfl | exact trivial | exact sim_refl _ | refine And.intro ?_ ?_)), by (repeat' (first | exact rfl | exact trivial | exact sim_refl _ | refine And.intro ?_ ?_)), ⟨rfl, by simp only [a5, a6]⟩, trivial⟩); (case hh => simp only [a5, a6, a7, a8, swp, Nat.add_sub_cancel]; (repeat' (first | exact rfl | exact trivial | exact sim_refl _ | refine And.intro ?_ ?_))); (case q1 => dsimp only; omega); (case q2 => dsimp only; omega); (case q3 => rw [swp_len]; exact j2))
      · rw [insJ, if_neg hlt] at j3
        refine sx hXIs [] 400 rfl (by (simp [-List.getD_eq_getElem?_getD, -List.length_eq_zero_iff, conjP])) ?_
        refine sx hXIs [.K, .T] 400 rfl (by (simp [-List.getD_eq_getElem?_getD, -List.length_eq_zero_iff, conjP, a6, a8, a9, j2, cellOff] <;> (first | omega | ((repeat' (refine And.intro ?_ ?_)) <;> (first | omega | exact decide_eq_false (by omega) | exact decide_eq_true (by omega)))))) ?_
        refine sx hXIs [.F] 400 rfl (by (simp [-List.getD_eq_getElem?_getD, -List.length_eq_zero_iff, conjP, addOP, a6, a8, hlt, cellOff])) ?_
        (refine back (i + 1) ?q1 ?q2 _ _ _ (sub_of [0] rfl rfl rfl rfl ⟨by (repeat' (first | exact rfl | exact trivial | exact sim_refl _ | refine And.intro ?_ ?_)), by (repeat' (first | exact rfl | exact trivial | exact sim_refl _ | refine And.intro ?_ ?_)), by (repeat' (first | exact rfl | exact trivial | exact sim_refl _ | refine And.intro ?_ ?_)), ⟨rfl, wi64 (by omega) (by omega)⟩, trivial⟩ ?hh (by (repeat' (first | exact rfl | exact trivial | exact sim_refl _ | refine And.intro ?_ ?_))) (by (repeat' (first | exact rfl | exact trivial | exact sim_refl _ | refine And.intro ?_ ?_)))); (case hh => rw [← j3]; (repeat' (first | exact rfl | exact trivial | exact sim_refl _ | refine And.intro ?_ ?_))); (case q1 => omega); (case q2 => omega))
  · have h2 : ¬ ((i + 1 : Nat) : Int) < (l.length : Int) := by omega
    have hiN : i = l.length - 1 := by omega
    refine sx hXIs [] 400 rfl (by (simp [-List.getD_eq_getElem?_getD, -List.length_eq_zero_iff, conjP])) ?_
    refine sx hXIs [.F] 400 rfl (by (simp [-List.getD_eq_getElem?_getD, -List.length_eq_zero_iff, conjP, addOP] <;> (first | omega | ((repeat' (refine And.intro ?_ ?_)) <;> (first | omega | exact decide_eq_false (by omega) | exact decide_eq_true (by omega)))))) ?_
    (refine ss_end hXIs [0] rfl rfl trivial rfl rfl rfl rfl (by (repeat' (first | exact rfl | exact trivial | exact sim_refl _ | refine And.intro ?_ ?_))) ?hh (by (repeat' (first | exact rfl | exact trivial | exact sim_refl _ | refine And.intro ?_ ?_))) (by (repeat' (first | exact rfl | exact trivial | exact sim_refl _ | refine And.intro ?_ ?_))); (case hh => unfold srt; rw [← hiN]; (repeat' (first | exact rfl | exact trivial | exact sim_refl _ | refine And.intro ?_ ?_))))
/-! bits.Len of a few. -/
theorem lenW0 (w : World) : Calls Try.prog 91 #[.int .u64 0] w fun e w' => e = .returned (.int .i64 0) ∧ w' = w := by
  go_enter Try.func91, Try.ntmps91
  go_wp2
  go_ret
  exact ⟨by kernel_rfl, rfl⟩
theorem lenW1 (w : World) : Calls Try.prog 91 #[.int .u64 1] w fun e w' => e = .returned (.int .i64 1) ∧ w' = w := by
  go_enter Try.func91, Try.ntmps91
  go_wp2
  go_ret
  exact ⟨by kernel_rfl, rfl⟩
theorem lenW2 (w : World) : Calls Try.prog 91 #[.int .u64 2] w fun e w' => e = .returned (.int .i64 2) ∧ w' = w := by
  go_enter Try.func91, Try.ntmps91
  go_wp2
  go_ret
  exact ⟨by kernel_rfl, rfl⟩
theorem lenW3 (w : World) : Calls Try.prog 91 #[.int .u64 3] w fun e w' => e = .returned (.int .i64 2) ∧ w' = w := by
  go_enter Try.func91, Try.ntmps91
  go_wp2
  go_ret
  exact ⟨by kernel_rfl, rfl⟩
theorem lenW4 (w : World) : Calls Try.prog 91 #[.int .u64 4] w fun e w' => e = .returned (.int .i64 3) ∧ w' = w := by
  go_enter Try.func91, Try.ntmps91
  go_wp2
  go_ret
  exact ⟨by kernel_rfl, rfl⟩
theorem lenW5 (w : World) : Calls Try.prog 91 #[.int .u64 5] w fun e w' => e = .returned (.int .i64 3) ∧ w' = w := by
  go_enter Try.func91, Try.ntmps91
  go_wp2
  go_ret
  exact ⟨by kernel_rfl, rfl⟩
theorem lenW6 (w : World) : Calls Try.prog 91 #[.int .u64 6] w fun e w' => e = .returned (.int .i64 3) ∧ w' = w := by
  go_enter Try.func91, Try.ntmps91
  go_wp2
  go_ret
  exact ⟨by kernel_rfl, rfl⟩
theorem lenW7 (w : World) : Calls Try.prog 91 #[.int .u64 7] w fun e w' => e = .returned (.int .i64 3) ∧ w' = w := by
  go_enter Try.func91, Try.ntmps91
  go_wp2
  go_ret
  exact ⟨by kernel_rfl, rfl⟩
theorem lenW8 (w : World) : Calls Try.prog 91 #[.int .u64 8] w fun e w' => e = .returned (.int .i64 4) ∧ w' = w := by
  go_enter Try.func91, Try.ntmps91
  go_wp2
  go_ret
  exact ⟨by kernel_rfl, rfl⟩
theorem lenW9 (w : World) : Calls Try.prog 91 #[.int .u64 9] w fun e w' => e = .returned (.int .i64 4) ∧ w' = w := by
  go_enter Try.func91, Try.ntmps91
  go_wp2
  go_ret
  exact ⟨by kernel_rfl, rfl⟩
theorem lenW10 (w : World) : Calls Try.prog 91 #[.int .u64 10] w fun e w' => e = .returned (.int .i64 4) ∧ w' = w := by
  go_enter Try.func91, Try.ntmps91
  go_wp2
  go_ret
  exact ⟨by kernel_rfl, rfl⟩
theorem lenW11 (w : World) : Calls Try.prog 91 #[.int .u64 11] w fun e w' => e = .returned (.int .i64 4) ∧ w' = w := by
  go_enter Try.func91, Try.ntmps91
  go_wp2
  go_ret
  exact ⟨by kernel_rfl, rfl⟩
theorem lenW12 (w : World) : Calls Try.prog 91 #[.int .u64 12] w fun e w' => e = .returned (.int .i64 4) ∧ w' = w := by
  go_enter Try.func91, Try.ntmps91
  go_wp2
  go_ret
  exact ⟨by kernel_rfl, rfl⟩
def lenV (x : Int) : Int := [0, 1, 2, 2, 3, 3, 3, 3, 4, 4, 4, 4, 4].getD x.toNat 0
theorem len_fn {x : Int} (h0 : 0 ≤ x) (h1 : x ≤ 12) : Gives Try.prog 91 [.int .u64 x] [] (Is (.int .i64 (lenV x)) []) := fun ρ w hS _ => by
  have hx : x = 0 ∨ x = 1 ∨ x = 2 ∨ x = 3 ∨ x = 4 ∨ x = 5 ∨ x = 6 ∨ x = 7 ∨ x = 8 ∨ x = 9 ∨ x = 10 ∨ x = 11 ∨ x = 12 := by omega
  rcases hx with rfl | rfl | rfl | rfl | rfl | rfl | rfl | rfl | rfl | rfl | rfl | rfl | rfl
  · exact (lenW0 w).mono fun e w' h => by obtain ⟨rfl, rfl⟩ := h; exact fnPost_same (V := .int .i64 0) hS rfl
  · exact (lenW1 w).mono fun e w' h => by obtain ⟨rfl, rfl⟩ := h; exact fnPost_same (V := .int .i64 1) hS rfl
  · exact (lenW2 w).mono fun e w' h => by obtain ⟨rfl, rfl⟩ := h; exact fnPost_same (V := .int .i64 2) hS rfl
  · exact (lenW3 w).mono fun e w' h => by obtain ⟨rfl, rfl⟩ := h; exact fnPost_same (V := .int .i64 2) hS rfl
  · exact (lenW4 w).mono fun e w' h => by obtain ⟨rfl, rfl⟩ := h; exact fnPost_same (V := .int .i64 3) hS rfl
  · exact (lenW5 w).mono fun e w' h => by obtain ⟨rfl, rfl⟩ := h; exact fnPost_same (V := .int .i64 3) hS rfl
  · exact (lenW6 w).mono fun e w' h => by obtain ⟨rfl, rfl⟩ := h; exact fnPost_same (V := .int .i64 3) hS rfl
  · exact (lenW7 w).mono fun e w' h => by obtain ⟨rfl, rfl⟩ := h; exact fnPost_same (V := .int .i64 3) hS rfl
  · exact (lenW8 w).mono fun e w' h => by obtain ⟨rfl, rfl⟩ := h; exact fnPost_same (V := .int .i64 4) hS rfl
  · exact (lenW9 w).mono fun e w' h => by obtain ⟨rfl, rfl⟩ := h; exact fnPost_same (V := .int .i64 4) hS rfl
  · exact (lenW10 w).mono fun e w' h => by obtain ⟨rfl, rfl⟩ := h; exact fnPost_same (V := .int .i64 4) hS rfl
  · exact (lenW11 w).mono fun e w' h => by obtain ⟨rfl, rfl⟩ := h; exact fnPost_same (V := .int .i64 4) hS rfl
  · exact (lenW12 w).mono fun e w' h => by obtain ⟨rfl, rfl⟩ := h; exact fnPost_same (V := .int .i64 4) hS rfl
def lenS : List SV → Option (List Prop × SV)
  | [.int .u64 x] => some ([0 ≤ x, x ≤ 12], .int .i64 (lenV x))
  | _ => none
theorem lenS_ok : PureOk 91 lenS := by
  intro args ob V hs ho
  unfold lenS at hs
  split at hs
  · simp only [Option.some.injEq, Prod.mk.injEq] at hs
    obtain ⟨rfl, rfl⟩ := hs
    have o1 := ho _ (List.mem_cons_self ..)
    have o2 := ho _ (List.mem_cons_of_mem _ (List.mem_cons_self ..))
    exact ⟨rfl, rfl, len_fn o1 o2⟩
  · simp at hs
theorem isort_nil : Gives Try.prog 92 [.nilslice, .int .i64 0, .int .i64 0] [] (Is (.tup []) []) := by
  refine gives_x hXIs (fn := Try.f92) rfl rfl rfl rfl fun ρ w => ?_
  refine sxb hXIs [.l] [] 400 rfl trivial ?_
  refine ss_sub hXIs (T' := [(0, .nilslice), (1, .int .i64 0), (2, .int .i64 0), (6, .int .i64 1)]) (H' := []) [] rfl rfl rfl rfl (by (repeat' (first | exact rfl | exact trivial | exact sim_refl _ | refine And.intro ?_ ?_))) (by (repeat' (first | exact rfl | exact trivial | exact sim_refl _ | refine And.intro ?_ ?_))) (by (repeat' (first | exact rfl | exact trivial | exact sim_refl _ | refine And.intro ?_ ?_))) (by (repeat' (first | exact rfl | exact trivial | exact sim_refl _ | refine And.intro ?_ ?_))) ?_
  refine ss_loop hXIs (fun _ : Unit => [(0, .nilslice), (1, .int .i64 0), (2, .int .i64 0), (6, .int .i64 1)]) (fun _ => []) (fun _ => True) (fun _ => 0) () trivial ?_
  intro _ _ I back
  refine sx hXIs [] 400 rfl (by (simp [-List.getD_eq_getElem?_getD, -List.length_eq_zero_iff, conjP])) ?_
  refine sx hXIs [.F] 400 rfl (by (simp [-List.getD_eq_getElem?_getD, -List.length_eq_zero_iff, conjP, addOP])) ?_
  (exact ss_end hXIs [] rfl rfl trivial rfl rfl rfl rfl (by (repeat' (first | exact rfl | exact trivial | exact sim_refl _ | refine And.intro ?_ ?_))) (by (repeat' (first | exact rfl | exact trivial | exact sim_refl _ | refine And.intro ?_ ?_))) (by (repeat' (first | exact rfl | exact trivial | exact sim_refl _ | refine And.intro ?_ ?_))) (by (repeat' (first | exact rfl | exact trivial | exact sim_refl _ | refine And.intro ?_ ?_))))
def isS : Hx.Spec := fun args H => match args with
  | [.sbuf h 1 0 n, .int .i64 a, .int .i64 b] => match getH H h with
    | some (.buf .i64 L 1 3) => some ([n = L.length, a = 0, b = (L.length : Int), 0 < L.length, L.length < 1000000], .tup [], H.set h (IB (srt L)))
    | _ => none
  | [.nilslice, .int .i64 a, .int .i64 b] => some ([a = 0, b = 0], .tup [], H)
  | _ => none
theorem isS_ok {args : List SV} {H : List HE} {ob : List Prop} {V : SV} {L : List HE} (hs : isS args H = some (ob, V, L)) (ho : AllP ob) : Gives Try.prog 92 args H (Is V L) := by
  unfold isS at hs
  split at hs
  · split at hs
    case h_2 => simp at hs
    rename_i _ h n a b _ X hg
    simp only [Option.some.injEq, Prod.mk.injEq] at hs
    obtain ⟨rfl, rfl, rfl⟩ := hs
    simp only [AllP, List.mem_cons, List.not_mem_nil, or_false, forall_eq_or_imp, forall_eq] at ho
    obtain ⟨rfl, rfl, rfl, o4, o5⟩ := ho
    have := frame1 (N := []) (H := H) (h0 := h) ⟨_, hTE⟩ (isort_fn X o4 o5) rfl rfl rfl hg rfl
    simp only [List.map_nil, List.append_nil] at this
    exact this
  · simp only [Option.some.injEq, Prod.mk.injEq] at hs
    obtain ⟨rfl, rfl, rfl⟩ := hs
    simp only [AllP, List.mem_cons, List.not_mem_nil, or_false, forall_eq_or_imp, forall_eq] at ho
    obtain ⟨rfl, rfl⟩ := ho
    have := frame0 (H := H) ⟨_, hTE⟩ isort_nil rfl rfl
    simp only [List.map_nil, List.append_nil] at this
    exact this
  · simp at hs
def ctSo : Nat → Option Hx.Spec
  | 91 => some (pureS lenS)
  | 92 => some (isS)
  | _ => none
theorem ctSo_ok : ∀ f s args H ob V L, ctSo f = some s → s args H = some (ob, V, L) → AllP ob → Gives Try.prog f args H (Is V L) := by
  intro f s args H ob V L h hs ho
  unfold ctSo at h
  split at h
  · simp at h; subst h; exact pureS_ok ⟨_, hTE⟩ (lenS_ok) hs ho
  · simp at h; subst h; exact isS_ok hs ho
  · simp at h
noncomputable def XSo : Tabs := tabs tr ft xt (fun _ => none) ctSo 20
theorem hXSo : TOk Try.prog (XSo) := ⟨hTE, hFT, ctSo_ok, hXT, fun t ks h => by simp [XSo, tabs] at h, mixed⟩
set_option maxHeartbeats 8000000 in
theorem sort_fn (l : List Int) (h0 : 0 < l.length) (hl : l.length ≤ 12) : Gives Try.prog 85 [.sbuf 0 1 0 l.length] [IB l] (Is (.tup []) [IB (srt l)]) := by
  refine gives_x hXSo (fn := Try.f85) rfl rfl rfl rfl fun ρ w => ?_
  have e1 : IntKind.u64.wrap (l.length : Int) = l.length := wu64 (by omega) (by omega)
  have e2 : (0 : Int) ≤ l.length := by omega
  have e3 : (l.length : Int) ≤ 12 := by omega
  have e4 : IntKind.i64.wrap (l.length : Int) = l.length := wi64 (by omega) (by omega)
  have e5 : l.length < 1000000 := by omega
  refine sx hXSo [] 400 rfl (by (simp [-List.getD_eq_getElem?_getD, -List.length_eq_zero_iff, conjP, e1, e2, e3])) ?_
  refine sx hXSo [.T] 400 rfl (by (simp [-List.getD_eq_getElem?_getD, -List.length_eq_zero_iff, conjP, e3, e4, e5, h0])) ?_
  (exact ss_end hXSo [0] rfl rfl trivial rfl rfl rfl rfl (by (repeat' (first | exact rfl | exact trivial | exact sim_refl _ | refine And.intro ?_ ?_))) (by (repeat' (first | exact rfl | exact trivial | exact sim_refl _ | refine And.intro ?_ ?_))) (by (repeat' (first | exact rfl | exact trivial | exact sim_refl _ | refine And.intro ?_ ?_))) (by (repeat' (first | exact rfl | exact trivial | exact sim_refl _ | refine And.intro ?_ ?_))))
set_option maxHeartbeats 800000 in
theorem sort_nil : Gives Try.prog 85 [.nilslice] [] (Is (.tup []) []) := by
  refine gives_x hXSo (fn := Try.f85) rfl rfl rfl rfl fun ρ w => ?_
  have e1 : IntKind.u64.wrap 0 = 0 := by decide
  have e2 : IntKind.i64.wrap 0 = 0 := by decide
  refine sx hXSo [] 400 rfl (by (simp [-List.getD_eq_getElem?_getD, -List.length_eq_zero_iff, conjP, e1])) ?_
  refine sx hXSo [.T] 400 rfl (by (simp [-List.getD_eq_getElem?_getD, -List.length_eq_zero_iff, conjP, e2])) ?_
  (exact ss_end hXSo [] rfl rfl trivial rfl rfl rfl rfl (by (repeat' (first | exact rfl | exact trivial | exact sim_refl _ | refine And.intro ?_ ?_))) (by (repeat' (first | exact rfl | exact trivial | exact sim_refl _ | refine And.intro ?_ ?_))) (by (repeat' (first | exact rfl | exact trivial | exact sim_refl _ | refine And.intro ?_ ?_))) (by (repeat' (first | exact rfl | exact trivial | exact sim_refl _ | refine And.intro ?_ ?_))))
def soS : Hx.Spec := fun args H => match args with
  | [.nilslice] => some ([], .tup [], H)
  | [.sbuf h 1 0 n] => match getH H h with
    | some (.buf .i64 L 1 3) => some ([n = L.length, 0 < L.length, L.length ≤ 12], .tup [], H.set h (IB (srt L)))
    | _ => none
  | _ => none
theorem soS_ok {args : List SV} {H : List HE} {ob : List Prop} {V : SV} {L : List HE} (hs : soS args H = some (ob, V, L)) (ho : AllP ob) : Gives Try.prog 85 args H (Is V L) := by
  unfold soS at hs
  split at hs
  · simp only [Option.some.injEq, Prod.mk.injEq] at hs
    obtain ⟨rfl, rfl, rfl⟩ := hs
    have := frame0 (H := H) ⟨_, hTE⟩ sort_nil rfl rfl
    simp only [List.map_nil, List.append_nil] at this
    exact this
  · split at hs
    case h_2 => simp at hs
    rename_i _ h n _ X hg
    simp only [Option.some.injEq, Prod.mk.injEq] at hs
    obtain ⟨rfl, rfl, rfl⟩ := hs
    simp only [AllP, List.mem_cons, List.not_mem_nil, or_false, forall_eq_or_imp, forall_eq] at ho
    obtain ⟨rfl, o4, o5⟩ := ho
    have := frame1 (N := []) (H := H) (h0 := h) ⟨_, hTE⟩ (sort_fn X o4 o5) rfl rfl rfl hg rfl
    simp only [List.map_nil, List.append_nil] at this
    exact this
  · simp at hs
end Go.Proofs.Ytfdkaakllceebaa
