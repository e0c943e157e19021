/- SmallPlays: who has its turn, a client that goes on, rows of words compared: rows of the table. -/
import Derived.Test.YtmghcelohnlceaaGreatDoorPlaysClient
import Derived.Test.YtmghcelohnlceaaGreatDoorAloneRows
import Derived.Test.YtmghcelohnlceaaGreatDoorFailsLaw
import Derived.Test.YtmghcelohnlceaaGreatDoorHyc
namespace Go.Proofs.YtmghcelohnlceaaGreatDoor
open Go Go.Hx
set_option maxRecDepth 8000
set_option linter.unusedVariables false
def ctYo : Nat → Option Hx.Spec
  | _ => none
theorem ctYo_ok : ∀ f s args H ob V L, ctYo f = some s → s args H = some (ob, V, L) → AllP ob → Gives Tryz.prog f args H (Is V L) := by
  intro f s args H ob V L h hs ho
  unfold ctYo at h
  split at h
  · simp at h
noncomputable def XYo : Tabs := tabs tr ft xt (fun _ => none) ctYo 0
theorem hXYo : TOk Tryz.prog (XYo) := ⟨hTE, hFT, ctYo_ok, hXT, fun t ks h => by simp [XYo, tabs] at h, mixed⟩
theorem set_self {H : List HE} {h : Nat} {o : SO} (hg : getH H h = some o) : H.set h (.obj o) = H := by
  have := getH_some.1 hg
  apply List.ext_getElem?
  intro i
  rw [List.getElem?_set]
  split
  · rename_i e; subst e
    have hl : h < H.length := by
      rcases Nat.lt_or_ge h H.length with h1 | h1
      · exact h1
      · rw [List.getElem?_eq_none h1] at this; simp at this
    rw [List.getElem?_eq_getElem hl] at this ⊢
    rw [if_pos hl, Option.some.inj this]
  · rfl
/-! Two rows of words, compared. -/
abbrev UB (l : List Int) : HE := .obj (.buf .u64 l 1 39)
def smT (A B : List Int) : Nat → List (Nat × SV)
  | i => [(0, .sbuf 0 1 0 A.length), (1, .slice 1 0 B.length B.length), (5, .int .i64 (i : Int))]
theorem take_succ_eq {A B : List Int} {i : Nat} (ha : i < A.length) (hb : i < B.length) (h : A.take i = B.take i) (he : A.getD i 0 = B.getD i 0) : A.take (i + 1) = B.take (i + 1) := by
  rw [List.take_add_one, List.take_add_one, h]
  have e1 : A[i]? = some (A.getD i 0) := by rw [List.getD_eq_getElem?_getD, List.getElem?_eq_getElem ha]; rfl
  have e2 : B[i]? = some (B.getD i 0) := by rw [List.getD_eq_getElem?_getD, List.getElem?_eq_getElem hb]; rfl
  rw [e1, e2, he]
theorem same_fn (A B : List Int) (hA : A.length < 1000000) (hB : B.length < 1000000) : Gives Tryz.prog 35 [.sbuf 0 1 0 A.length, .slice 1 0 B.length B.length] [UB A, WO B] (Is (.bool (decide (A = B))) [UB A, WO B]) := by
  refine gives_x hXYo (fn := Tryz.f35) rfl rfl rfl rfl fun ρ w => ?_
  by_cases hl : A.length = B.length
  · refine sxb hXYo [.l] [.F] 400 rfl (by simp [conjP, hl]) ?_
    refine ss_sub hXYo (T' := smT A B 0) (H' := [UB A, WO B]) [0, 1] rfl rfl rfl rfl (by (repeat' (first | exact rfl | exact trivial | exact sim_refl _ | refine And.intro ?_ ?_))) (by (repeat' (first | exact rfl | exact trivial | exact sim_refl _ | refine And.intro ?_ ?_))) (by (repeat' (first | exact rfl | exact trivial | exact sim_refl _ | refine And.intro ?_ ?_))) (by (repeat' (first | exact rfl | exact trivial | exact sim_refl _ | refine And.intro ?_ ?_))) ?_
    refine ss_loop hXYo (smT A B) (fun _ => [UB A, WO B]) (fun i => i ≤ A.length ∧ A.take i = B.take i) (fun i => A.length - i) 0 ⟨Nat.zero_le _, by simp⟩ ?_
    rintro i ⟨hi, ht⟩ I back
    by_cases hi2 : i < A.length
    · have hi3 : i < B.length := by omega
      by_cases he : A.getD i 0 = B.getD i 0
      · refine sx hXYo [] 400 rfl (by (simp [-List.getD_eq_getElem?_getD, -List.length_eq_zero_iff, conjP])) ?_
        refine sx hXYo [.T] 400 rfl (by (simp [-List.getD_eq_getElem?_getD, -List.length_eq_zero_iff, conjP, hi2, hi3, cellOff])) ?_
        refine sx hXYo [.F] 400 rfl (by (simp [-List.getD_eq_getElem?_getD, -List.length_eq_zero_iff, conjP, addOP, cellOff, he])) ?_
        (refine back (i + 1) ⟨by omega, take_succ_eq hi2 hi3 ht he⟩ (by omega) _ _ _ (sub_of [0, 1] rfl rfl rfl rfl ⟨by (repeat' (first | exact rfl | exact trivial | exact sim_refl _ | refine And.intro ?_ ?_)), by (repeat' (first | exact rfl | exact trivial | exact sim_refl _ | refine And.intro ?_ ?_)), ⟨rfl, wi64 (by omega) (by omega)⟩, trivial⟩ (by (repeat' (first | exact rfl | exact trivial | exact sim_refl _ | refine And.intro ?_ ?_))) (by (repeat' (first | exact rfl | exact trivial | exact sim_refl _ | refine And.intro ?_ ?_))) (by (repeat' (first | exact rfl | exact trivial | exact sim_refl _ | refine And.intro ?_ ?_)))))
      · have hne : ¬ A = B := fun h => he (by rw [h])
        refine sx hXYo [] 400 rfl (by (simp [-List.getD_eq_getElem?_getD, -List.length_eq_zero_iff, conjP])) ?_
        refine sx hXYo [.T] 400 rfl (by (simp [-List.getD_eq_getElem?_getD, -List.length_eq_zero_iff, conjP, hi2, hi3, cellOff])) ?_
        refine sx hXYo [.T] 400 rfl (by (simp [-List.getD_eq_getElem?_getD, -List.length_eq_zero_iff, conjP, addOP, cellOff, he])) ?_
        (refine ss_end hXYo [0, 1] rfl rfl trivial rfl rfl rfl rfl ?hv (by (repeat' (first | exact rfl | exact trivial | exact sim_refl _ | refine And.intro ?_ ?_))) (by (repeat' (first | exact rfl | exact trivial | exact sim_refl _ | refine And.intro ?_ ?_))) (by (repeat' (first | exact rfl | exact trivial | exact sim_refl _ | refine And.intro ?_ ?_))); (case hv => rw [decide_eq_false hne]; exact rfl))
    · have hAB : A = B := by
        have e : i = A.length := by omega
        rw [e, List.take_length, hl, List.take_length] at ht
        exact ht
      refine sx hXYo [] 400 rfl (by (simp [-List.getD_eq_getElem?_getD, -List.length_eq_zero_iff, conjP])) ?_
      refine sx hXYo [.F] 400 rfl (by (simp [-List.getD_eq_getElem?_getD, -List.length_eq_zero_iff, conjP, addOP, hi2])) ?_
      (refine ss_end hXYo [0, 1] rfl rfl trivial rfl rfl rfl rfl ?hv (by (repeat' (first | exact rfl | exact trivial | exact sim_refl _ | refine And.intro ?_ ?_))) (by (repeat' (first | exact rfl | exact trivial | exact sim_refl _ | refine And.intro ?_ ?_))) (by (repeat' (first | exact rfl | exact trivial | exact sim_refl _ | refine And.intro ?_ ?_))); (case hv => rw [decide_eq_true hAB]; exact rfl))
  · have hne : ¬ A = B := fun h => hl (by rw [h])
    refine sx hXYo [] 400 rfl (by (simp [-List.getD_eq_getElem?_getD, -List.length_eq_zero_iff, conjP])) ?_
    refine sx hXYo [.T] 400 rfl (by (simp [-List.getD_eq_getElem?_getD, -List.length_eq_zero_iff, conjP, addOP] <;> (first | omega | ((repeat' (refine And.intro ?_ ?_)) <;> (first | omega | exact decide_eq_false (by omega) | exact decide_eq_true (by omega)))))) ?_
    (refine ss_end hXYo [0, 1] rfl rfl trivial rfl rfl rfl rfl ?hv (by (repeat' (first | exact rfl | exact trivial | exact sim_refl _ | refine And.intro ?_ ?_))) (by (repeat' (first | exact rfl | exact trivial | exact sim_refl _ | refine And.intro ?_ ?_))) (by (repeat' (first | exact rfl | exact trivial | exact sim_refl _ | refine And.intro ?_ ?_))); (case hv => rw [decide_eq_false hne]; exact rfl))
def sameS : Hx.Spec := fun args H => match args with
  | [.sbuf h 1 0 l, .slice h2 0 l2 c] => match getH H h, getH H h2, nodupN [h, h2] with
    | some (.buf .u64 A 1 39), some (.ints .u64 B 39), true => some ([l = A.length, l2 = B.length, c = B.length, A.length < 1000000, B.length < 1000000], .bool (decide (A = B)), H)
    | _, _, _ => none
  | _ => none
theorem sameS_ok {args : List SV} {H : List HE} {ob : List Prop} {V : SV} {L : List HE} (hs : sameS args H = some (ob, V, L)) (ho : AllP ob) : Gives Tryz.prog 35 args H (Is V L) := by
  unfold sameS at hs
  split at hs
  · rename_i _ h l h2 l2 c
    split at hs
    · rename_i _ _ _ A B g1 g2 hn
      simp only [Option.some.injEq, Prod.mk.injEq] at hs
      obtain ⟨rfl, rfl, rfl⟩ := hs
      have o1 := ho _ (List.mem_cons_self ..)
      have o2 := ho _ (List.mem_cons_of_mem _ (List.mem_cons_self ..))
      have o3 := ho _ (List.mem_cons_of_mem _ (List.mem_cons_of_mem _ (List.mem_cons_self ..)))
      have o4 := ho _ (List.mem_cons_of_mem _ (List.mem_cons_of_mem _ (List.mem_cons_of_mem _ (List.mem_cons_self ..))))
      have o5 := ho _ (List.mem_cons_of_mem _ (List.mem_cons_of_mem _ (List.mem_cons_of_mem _ (List.mem_cons_of_mem _ (List.mem_cons_self ..)))))
      subst o1; subst o2; subst o3
      have := frame2n (H := H) (h0 := h) (h1 := h2) ⟨_, hTE⟩ (same_fn A B o4 o5) rfl rfl rfl hn g1 g2 rfl rfl rfl
      rw [show (H.set h (.obj (SO.ren (nm [h, h2] H) (.buf .u64 A 1 39)))) = H from set_self g1] at this
      rw [show (H.set h2 (.obj (SO.ren (nm [h, h2] H) (.ints .u64 B 39)))) = H from set_self g2] at this
      exact this
    · simp at hs
  · simp at hs

def smU (A B : List Int) : Nat → List (Nat × SV)
  | i => [(0, .sbuf 0 1 0 A.length), (1, .sbuf 1 1 0 B.length), (5, .int .i64 (i : Int))]
theorem sameU_fn (A B : List Int) (hA : A.length < 1000000) (hB : B.length < 1000000) : Gives Tryz.prog 35 [.sbuf 0 1 0 A.length, .sbuf 1 1 0 B.length] [UB A, UB B] (Is (.bool (decide (A = B))) [UB A, UB B]) := by
  refine gives_x hXYo (fn := Tryz.f35) rfl rfl rfl rfl fun ρ w => ?_
  by_cases hl : A.length = B.length
  · refine sxb hXYo [.l] [.F] 400 rfl (by simp [conjP, hl]) ?_
    refine ss_sub hXYo (T' := smU A B 0) (H' := [UB A, UB B]) [0, 1] rfl rfl rfl rfl (by (repeat' (first | exact rfl | exact trivial | exact sim_refl _ | refine And.intro ?_ ?_))) (by (repeat' (first | exact rfl | exact trivial | exact sim_refl _ | refine And.intro ?_ ?_))) (by (repeat' (first | exact rfl | exact trivial | exact sim_refl _ | refine And.intro ?_ ?_))) (by (repeat' (first | exact rfl | exact trivial | exact sim_refl _ | refine And.intro ?_ ?_))) ?_
    refine ss_loop hXYo (smU A B) (fun _ => [UB A, UB B]) (fun i => i ≤ A.length ∧ A.take i = B.take i) (fun i => A.length - i) 0 ⟨Nat.zero_le _, by simp⟩ ?_
    rintro i ⟨hi, ht⟩ I back
    by_cases hi2 : i < A.length
    · have hi3 : i < B.length := by omega
      by_cases he : A.getD i 0 = B.getD i 0
      · refine sx hXYo [] 400 rfl (by (simp [-List.getD_eq_getElem?_getD, -List.length_eq_zero_iff, conjP])) ?_
        refine sx hXYo [.T] 400 rfl (by (simp [-List.getD_eq_getElem?_getD, -List.length_eq_zero_iff, conjP, hi2, hi3, cellOff])) ?_
        refine sx hXYo [.F] 400 rfl (by (simp [-List.getD_eq_getElem?_getD, -List.length_eq_zero_iff, conjP, addOP, cellOff, he])) ?_
        (refine back (i + 1) ⟨by omega, take_succ_eq hi2 hi3 ht he⟩ (by omega) _ _ _ (sub_of [0, 1] rfl rfl rfl rfl ⟨by (repeat' (first | exact rfl | exact trivial | exact sim_refl _ | refine And.intro ?_ ?_)), by (repeat' (first | exact rfl | exact trivial | exact sim_refl _ | refine And.intro ?_ ?_)), ⟨rfl, wi64 (by omega) (by omega)⟩, trivial⟩ (by (repeat' (first | exact rfl | exact trivial | exact sim_refl _ | refine And.intro ?_ ?_))) (by (repeat' (first | exact rfl | exact trivial | exact sim_refl _ | refine And.intro ?_ ?_))) (by (repeat' (first | exact rfl | exact trivial | exact sim_refl _ | refine And.intro ?_ ?_)))))
      · have hne : ¬ A = B := fun h => he (by rw [h])
        refine sx hXYo [] 400 rfl (by (simp [-List.getD_eq_getElem?_getD, -List.length_eq_zero_iff, conjP])) ?_
        refine sx hXYo [.T] 400 rfl (by (simp [-List.getD_eq_getElem?_getD, -List.length_eq_zero_iff, conjP, hi2, hi3, cellOff])) ?_
        refine sx hXYo [.T] 400 rfl (by (simp [-List.getD_eq_getElem?_getD, -List.length_eq_zero_iff, conjP, addOP, cellOff, he])) ?_
        (refine ss_end hXYo [0, 1] rfl rfl trivial rfl rfl rfl rfl ?hv (by (repeat' (first | exact rfl | exact trivial | exact sim_refl _ | refine And.intro ?_ ?_))) (by (repeat' (first | exact rfl | exact trivial | exact sim_refl _ | refine And.intro ?_ ?_))) (by (repeat' (first | exact rfl | exact trivial | exact sim_refl _ | refine And.intro ?_ ?_))); (case hv => rw [decide_eq_false hne]; exact rfl))
    · have hAB : A = B := by
        have e : i = A.length := by omega
        rw [e, List.take_length, hl, List.take_length] at ht
        exact ht
      refine sx hXYo [] 400 rfl (by (simp [-List.getD_eq_getElem?_getD, -List.length_eq_zero_iff, conjP])) ?_
      refine sx hXYo [.F] 400 rfl (by (simp [-List.getD_eq_getElem?_getD, -List.length_eq_zero_iff, conjP, addOP, hi2])) ?_
      (refine ss_end hXYo [0, 1] rfl rfl trivial rfl rfl rfl rfl ?hv (by (repeat' (first | exact rfl | exact trivial | exact sim_refl _ | refine And.intro ?_ ?_))) (by (repeat' (first | exact rfl | exact trivial | exact sim_refl _ | refine And.intro ?_ ?_))) (by (repeat' (first | exact rfl | exact trivial | exact sim_refl _ | refine And.intro ?_ ?_))); (case hv => rw [decide_eq_true hAB]; exact rfl))
  · have hne : ¬ A = B := fun h => hl (by rw [h])
    refine sx hXYo [] 400 rfl (by (simp [-List.getD_eq_getElem?_getD, -List.length_eq_zero_iff, conjP])) ?_
    refine sx hXYo [.T] 400 rfl (by (simp [-List.getD_eq_getElem?_getD, -List.length_eq_zero_iff, conjP, addOP] <;> (first | omega | ((repeat' (refine And.intro ?_ ?_)) <;> (first | omega | exact decide_eq_false (by omega) | exact decide_eq_true (by omega)))))) ?_
    (refine ss_end hXYo [0, 1] rfl rfl trivial rfl rfl rfl rfl ?hv (by (repeat' (first | exact rfl | exact trivial | exact sim_refl _ | refine And.intro ?_ ?_))) (by (repeat' (first | exact rfl | exact trivial | exact sim_refl _ | refine And.intro ?_ ?_))) (by (repeat' (first | exact rfl | exact trivial | exact sim_refl _ | refine And.intro ?_ ?_))); (case hv => rw [decide_eq_false hne]; exact rfl))
def sameU : Hx.Spec := fun args H => match args with
  | [.sbuf h 1 0 l, .sbuf h2 1 0 l2] => match getH H h, getH H h2, nodupN [h, h2] with
    | some (.buf .u64 A 1 39), some (.buf .u64 B 1 39), true => some ([l = A.length, l2 = B.length, A.length < 1000000, B.length < 1000000], .bool (decide (A = B)), H)
    | _, _, _ => none
  | _ => none
theorem sameU_ok {args : List SV} {H : List HE} {ob : List Prop} {V : SV} {L : List HE} (hs : sameU args H = some (ob, V, L)) (ho : AllP ob) : Gives Tryz.prog 35 args H (Is V L) := by
  unfold sameU at hs
  split at hs
  · rename_i _ h l h2 l2
    split at hs
    · rename_i _ _ _ A B g1 g2 hn
      simp only [Option.some.injEq, Prod.mk.injEq] at hs
      obtain ⟨rfl, rfl, rfl⟩ := hs
      have o1 := ho _ (List.mem_cons_self ..)
      have o2 := ho _ (List.mem_cons_of_mem _ (List.mem_cons_self ..))
      have o3 := ho _ (List.mem_cons_of_mem _ (List.mem_cons_of_mem _ (List.mem_cons_self ..)))
      have o4 := ho _ (List.mem_cons_of_mem _ (List.mem_cons_of_mem _ (List.mem_cons_of_mem _ (List.mem_cons_self ..))))
      subst o1; subst o2
      have := frame2n (H := H) (h0 := h) (h1 := h2) ⟨_, hTE⟩ (sameU_fn A B o3 o4) rfl rfl rfl hn g1 g2 rfl rfl rfl
      rw [show (H.set h (.obj (SO.ren (nm [h, h2] H) (.buf .u64 A 1 39)))) = H from set_self g1] at this
      rw [show (H.set h2 (.obj (SO.ren (nm [h, h2] H) (.buf .u64 B 1 39)))) = H from set_self g2] at this
      exact this
    · simp at hs
  · simp at hs

/-- Accesses are compared part by part. -/
def etA : Nat → Option (List (Option IntKind))
  | 52 => some [some .i64, some .i64, some .u64, none]
  | _ => none
theorem etA_ok : ∀ t ks, etA t = some ks → EqOk Tryz.prog t ks := by
  intro t ks h
  unfold etA at h
  split at h
  · simp at h; subst h
    exact eqOk_of (by kernel_rfl) (by kernel_rfl)
  · simp at h

/-- Who has its turn; back: the topic goes, and comes anew. -/
def whoY (o0 o1 : Option WS) (p0 p1 : Value) (back : Bool) : Hx.Spec := fun args H => match args, H with
  | [.ptr 2 0, .agg [.int .i64 s, .int .i64 m]], e0 :: e1 :: .obj xo :: .obj ao :: .obj wo :: .obj bo :: e6 :: .obj ko :: .obj c0 :: .obj c1 :: .obj c2 :: .obj c3 :: e12 :: e13 :: e14 :: e15 :: e16 :: e17 :: e18 :: e19 :: e20 :: e21 :: e22 :: rest =>
    match xo, ao, wo, bo, c0, c1 with
    | .cells [x0, x1, x2, x3, x4, x5, x6, x7, .int .i64 R, xa, xb, xk, .int .u64 n] xt, .cells [a0, .int .i64 st, .int .i64 kd, .int .i64 wd, .int .u64 vl, .bool ch, a6] at', .ints k W wt, bo, .cells [u0, v0, y0, .raw q0, .int .u64 id0] ct0, .cells [u1, v1, y1, .raw q1, .int .u64 id1] ct1 =>
      match back with
      | false => some ([SO.cells [x0, x1, x2, x3, x4, x5, x6, x7, .int .i64 R, xa, xb, xk, .int .u64 n] xt = xO R 3 5 7 n, ko = kO 8 9 10 11, SO.cells [u0, v0, y0, .raw q0, .int .u64 id0] ct0 = ycO (wrP o0 12) .nilptr (dwP o0 20 p0) (.raw q0) id0, SO.cells [u1, v1, y1, .raw q1, .int .u64 id1] ct1 = ycO (wrP o1 14) .nilptr (dwP o1 22 p1) (.raw q1) id1, e12 = wrE R o0 13, e13 = wlE o0, e14 = wrE R o1 15, e15 = wlE o1, e20 = dwE R o0 21, e22 = dwE R o1 23, bkB s m (hdO o0) (hdO o1) = false], .int .i64 (a3 s), H)
      | true => some ([SO.cells [x0, x1, x2, x3, x4, x5, x6, x7, .int .i64 R, xa, xb, xk, .int .u64 n] xt = xO R 3 5 7 n, ko = kO 8 9 10 11, SO.cells [u0, v0, y0, .raw q0, .int .u64 id0] ct0 = ycO (wrP o0 12) .nilptr (dwP o0 20 p0) (.raw q0) id0, SO.cells [u1, v1, y1, .raw q1, .int .u64 id1] ct1 = ycO (wrP o1 14) .nilptr (dwP o1 22 p1) (.raw q1) id1, e12 = wrE R o0 13, e13 = wlE o0, e14 = wrE R o1 15, e15 = wlE o1, e20 = dwE R o0 21, e22 = dwE R o1 23, bkB s m (hdO o0) (hdO o1) = true,
          HE.obj (.cells [a0, .int .i64 st, .int .i64 kd, .int .i64 wd, .int .u64 vl, .bool ch, a6] at') = AOx 4 W st kd wd vl ch, HE.obj (.ints k W wt) = WO W, HE.obj bo = ROx 6 W st kd wd vl ch, e6 = WO W,
          1 ≤ R, R ≤ 8, W.length = 21, 0 ≤ st, st < 1000000, 0 ≤ W.getD 7 0, W.getD 7 0 < 18446744073709551616], .int .i64 (-1),
          e0 :: e1 :: .obj (xO R 3 5 7 n) :: AOx 4 ((W.set 7 (goneW (W.getD 7 0))).set 7 (bornW (goneW (W.getD 7 0)))) (st + 1 + 1) 2 7 (bornW (goneW (W.getD 7 0))) true :: WO ((W.set 7 (goneW (W.getD 7 0))).set 7 (bornW (goneW (W.getD 7 0)))) :: ROx 6 ((W.set 7 (goneW (W.getD 7 0))).set 7 (bornW (goneW (W.getD 7 0)))) (st + 1 + 1) 2 7 (bornW (goneW (W.getD 7 0))) true :: WO ((W.set 7 (goneW (W.getD 7 0))).set 7 (bornW (goneW (W.getD 7 0)))) ::
            .obj (kO 8 9 10 11) :: .obj (ycO (wrP o0 12) .nilptr (dwP o0 20 p0) (.raw q0) id0) :: .obj (ycO (wrP o1 14) .nilptr (dwP o1 22 p1) (.raw q1) id1) :: .obj c2 :: .obj c3 :: wrE R o0 13 :: wlE o0 :: wrE R o1 15 :: wlE o1 :: e16 :: e17 :: e18 :: e19 :: dwE R o0 21 :: e21 :: dwE R o1 23 :: rest)
    | _, _, _, _, _, _ => none
  | _, _ => none
set_option maxHeartbeats 4000000 in
theorem whoY_ok {o0 o1 : Option WS} {p0 p1 : Value} {back : Bool} {args : List SV} {H : List HE} {ob : List Prop} {V : SV} {L : List HE} (hs : whoY o0 o1 p0 p1 back args H = some (ob, V, L)) (ho : AllP ob) : Gives Tryz.prog 11 args H (Is V L) := by
  unfold whoY at hs
  split at hs
  case h_2 => simp at hs
  split at hs
  case h_2 => simp at hs
  split at hs
  · simp only [Option.some.injEq, Prod.mk.injEq] at hs
    obtain ⟨rfl, rfl, rfl⟩ := hs
    simp only [AllP, List.mem_cons, List.not_mem_nil, or_false, forall_eq_or_imp, forall_eq] at ho
    obtain ⟨q1, q2, q3, q4, rfl, rfl, rfl, rfl, rfl, rfl, hb⟩ := ho
    rw [q1, q2, q3, q4]
    rcases o0 with _ | s0 <;> rcases o1 with _ | s1
    · exact gfB ⟨_, hTE⟩ (yN00_fn hb) [2, 3, 5, 7, 8, 9, 10, 11] [.new, .keep, .keep, .new, .new, .new, .keep, .keep] rfl rfl rfl rfl (by (repeat' (first | exact ⟨_, rfl⟩ | exact trivial | refine And.intro ?_ ?_))) (by (repeat' (first | exact rfl | exact trivial | exact sim_refl _ | refine And.intro ?_ ?_))) (by (repeat' (first | exact rfl | exact trivial | exact sim_refl _ | refine And.intro ?_ ?_))) (by (repeat' (first | exact rfl | exact trivial | exact sim_refl _ | refine And.intro ?_ ?_))) rfl (by rw [mergeB, appL_eq]; exact (List.append_nil _).trans rfl)
    · exact gfB ⟨_, hTE⟩ (yN01_fn hb) [2, 3, 5, 7, 8, 9, 10, 11, 14, 15, 22] [.new, .keep, .keep, .new, .new, .new, .keep, .keep, .new, .keep, .keep] rfl rfl rfl rfl (by (repeat' (first | exact ⟨_, rfl⟩ | exact trivial | refine And.intro ?_ ?_))) (by (repeat' (first | exact rfl | exact trivial | exact sim_refl _ | refine And.intro ?_ ?_))) (by (repeat' (first | exact rfl | exact trivial | exact sim_refl _ | refine And.intro ?_ ?_))) (by (repeat' (first | exact rfl | exact trivial | exact sim_refl _ | refine And.intro ?_ ?_))) rfl (by rw [mergeB, appL_eq]; exact (List.append_nil _).trans rfl)
    · exact gfB ⟨_, hTE⟩ (yN10_fn hb) [2, 3, 5, 7, 8, 9, 10, 11, 12, 13, 20] [.new, .keep, .keep, .new, .new, .new, .keep, .keep, .new, .keep, .keep] rfl rfl rfl rfl (by (repeat' (first | exact ⟨_, rfl⟩ | exact trivial | refine And.intro ?_ ?_))) (by (repeat' (first | exact rfl | exact trivial | exact sim_refl _ | refine And.intro ?_ ?_))) (by (repeat' (first | exact rfl | exact trivial | exact sim_refl _ | refine And.intro ?_ ?_))) (by (repeat' (first | exact rfl | exact trivial | exact sim_refl _ | refine And.intro ?_ ?_))) rfl (by rw [mergeB, appL_eq]; exact (List.append_nil _).trans rfl)
    · exact gfB ⟨_, hTE⟩ (yN11_fn hb) [2, 3, 5, 7, 8, 9, 10, 11, 12, 13, 20, 14, 15, 22] [.new, .keep, .keep, .new, .new, .new, .keep, .keep, .new, .keep, .keep, .new, .keep, .keep] rfl rfl rfl rfl (by (repeat' (first | exact ⟨_, rfl⟩ | exact trivial | refine And.intro ?_ ?_))) (by (repeat' (first | exact rfl | exact trivial | exact sim_refl _ | refine And.intro ?_ ?_))) (by (repeat' (first | exact rfl | exact trivial | exact sim_refl _ | refine And.intro ?_ ?_))) (by (repeat' (first | exact rfl | exact trivial | exact sim_refl _ | refine And.intro ?_ ?_))) rfl (by rw [mergeB, appL_eq]; exact (List.append_nil _).trans rfl)
  · simp only [Option.some.injEq, Prod.mk.injEq] at hs
    obtain ⟨rfl, rfl, rfl⟩ := hs
    simp only [AllP, List.mem_cons, List.not_mem_nil, or_false, forall_eq_or_imp, forall_eq] at ho
    obtain ⟨q1, q2, q3, q4, rfl, rfl, rfl, rfl, rfl, rfl, hb, q5, q6, q7, rfl, g1, g2, g3, g4, g5, g8, g9⟩ := ho
    rw [q1, q2, q3, q4, q5, q6, q7]
    rcases o0 with _ | s0 <;> rcases o1 with _ | s1
    · exact gfB ⟨_, hTE⟩ (yB00_fn g1 g2 g3 g4 g5 g8 g9 hb) [2, 3, 4, 5, 6, 7, 8, 9, 10, 11] [.new, .new, .new, .new, .new, .new, .new, .new, .keep, .keep] rfl rfl rfl rfl (by (repeat' (first | exact ⟨_, rfl⟩ | exact trivial | refine And.intro ?_ ?_))) (by (repeat' (first | exact rfl | exact trivial | exact sim_refl _ | refine And.intro ?_ ?_))) (by (repeat' (first | exact rfl | exact trivial | exact sim_refl _ | refine And.intro ?_ ?_))) (by (repeat' (first | exact rfl | exact trivial | exact sim_refl _ | refine And.intro ?_ ?_))) rfl (by rw [mergeB, appL_eq]; exact (List.append_nil _).trans rfl)
    · exact gfB ⟨_, hTE⟩ (yB01_fn g1 g2 g3 g4 g5 g8 g9 hb) [2, 3, 4, 5, 6, 7, 8, 9, 10, 11, 14, 15, 22] [.new, .new, .new, .new, .new, .new, .new, .new, .keep, .keep, .new, .keep, .keep] rfl rfl rfl rfl (by (repeat' (first | exact ⟨_, rfl⟩ | exact trivial | refine And.intro ?_ ?_))) (by (repeat' (first | exact rfl | exact trivial | exact sim_refl _ | refine And.intro ?_ ?_))) (by (repeat' (first | exact rfl | exact trivial | exact sim_refl _ | refine And.intro ?_ ?_))) (by (repeat' (first | exact rfl | exact trivial | exact sim_refl _ | refine And.intro ?_ ?_))) rfl (by rw [mergeB, appL_eq]; exact (List.append_nil _).trans rfl)
    · exact gfB ⟨_, hTE⟩ (yB10_fn g1 g2 g3 g4 g5 g8 g9 hb) [2, 3, 4, 5, 6, 7, 8, 9, 10, 11, 12, 13, 20] [.new, .new, .new, .new, .new, .new, .new, .new, .keep, .keep, .new, .keep, .keep] rfl rfl rfl rfl (by (repeat' (first | exact ⟨_, rfl⟩ | exact trivial | refine And.intro ?_ ?_))) (by (repeat' (first | exact rfl | exact trivial | exact sim_refl _ | refine And.intro ?_ ?_))) (by (repeat' (first | exact rfl | exact trivial | exact sim_refl _ | refine And.intro ?_ ?_))) (by (repeat' (first | exact rfl | exact trivial | exact sim_refl _ | refine And.intro ?_ ?_))) rfl (by rw [mergeB, appL_eq]; exact (List.append_nil _).trans rfl)
    · exact gfB ⟨_, hTE⟩ (yB11_fn g1 g2 g3 g4 g5 g8 g9 hb) [2, 3, 4, 5, 6, 7, 8, 9, 10, 11, 12, 13, 20, 14, 15, 22] [.new, .new, .new, .new, .new, .new, .new, .new, .keep, .keep, .new, .keep, .keep, .new, .keep, .keep] rfl rfl rfl rfl (by (repeat' (first | exact ⟨_, rfl⟩ | exact trivial | refine And.intro ?_ ?_))) (by (repeat' (first | exact rfl | exact trivial | exact sim_refl _ | refine And.intro ?_ ?_))) (by (repeat' (first | exact rfl | exact trivial | exact sim_refl _ | refine And.intro ?_ ?_))) (by (repeat' (first | exact rfl | exact trivial | exact sim_refl _ | refine And.intro ?_ ?_))) rfl (by rw [mergeB, appL_eq]; exact (List.append_nil _).trans rfl)
/-- Client 0 has begun. -/
def begY0 : Hx.Spec := fun args H => match args, H with
  | [.ptr 2 0, .int .i64 i', .int .i64 m], e0 :: e1 :: .obj xo :: .obj ao :: .obj wo :: .obj bo :: e6 :: .obj ko :: .obj c0 :: .obj c1 :: .obj c2 :: .obj c3 :: e12 :: e13 :: e14 :: e15 :: e16 :: e17 :: e18 :: e19 :: e20 :: e21 :: e22 :: rest =>
    match xo, c0 with
    | .cells [x0, x1, x2, x3, x4, x5, x6, x7, .int .i64 R, xa, xb, xk, .int .u64 n] xt, .cells [u, v, y, .raw qv, .int .u64 id] ct => some ([SO.cells [x0, x1, x2, x3, x4, x5, x6, x7, .int .i64 R, xa, xb, xk, .int .u64 n] xt = xO R 3 5 7 n, ko = kO 8 9 10 11, SO.cells [u, v, y, .raw qv, .int .u64 id] ct = ycO (.ptr 12 0) .nilptr (.ptr 20 0) (.raw qv) id, i' = 0, ∃ o, getH H 12 = some o, ∃ o, getH H 20 = some o], .tup [], H)
    | _, _ => none
  | _, _ => none
theorem begY0_ok {args : List SV} {H : List HE} {ob : List Prop} {V : SV} {L : List HE} (hs : begY0 args H = some (ob, V, L)) (ho : AllP ob) : Gives Tryz.prog 12 args H (Is V L) := by
  unfold begY0 at hs
  split at hs
  case h_2 => simp at hs
  split at hs
  case h_2 => simp at hs
  simp only [Option.some.injEq, Prod.mk.injEq] at hs
  obtain ⟨rfl, rfl, rfl⟩ := hs
  simp only [AllP, List.mem_cons, List.not_mem_nil, or_false, forall_eq_or_imp, forall_eq] at ho
  obtain ⟨q1, q2, q3, rfl, ⟨o1, g1⟩, ⟨o2, g2⟩⟩ := ho
  rw [q1, q2, q3] at g1 g2 ⊢
  exact gfB ⟨_, hTE⟩ yb0_fn [2, 3, 5, 7, 8, 9, 10, 11, 12, 20] [.new, .keep, .keep, .new, .new, .keep, .keep, .keep, .keep, .keep] rfl rfl rfl rfl (by repeat' (first | exact ⟨_, getH_some.1 g1⟩ | exact ⟨_, getH_some.1 g2⟩ | exact ⟨_, rfl⟩ | exact trivial | refine And.intro ?_ ?_)) (by repeat' (first | exact there_of_obj (getH_some.1 g1) | exact there_of_obj (getH_some.1 g2) | exact rfl | exact trivial | exact sim_refl _ | exact simO_refl _ | refine And.intro ?_ ?_)) (by (repeat' (first | exact rfl | exact trivial | exact sim_refl _ | refine And.intro ?_ ?_))) (by (repeat' (first | exact rfl | exact trivial | exact sim_refl _ | refine And.intro ?_ ?_))) rfl (by rw [mergeB, appL_eq]; exact (List.append_nil _).trans rfl)
/-- Client 1 has begun. -/
def begY1 : Hx.Spec := fun args H => match args, H with
  | [.ptr 2 0, .int .i64 i', .int .i64 m], e0 :: e1 :: .obj xo :: .obj ao :: .obj wo :: .obj bo :: e6 :: .obj ko :: .obj c0 :: .obj c1 :: .obj c2 :: .obj c3 :: e12 :: e13 :: e14 :: e15 :: e16 :: e17 :: e18 :: e19 :: e20 :: e21 :: e22 :: rest =>
    match xo, c1 with
    | .cells [x0, x1, x2, x3, x4, x5, x6, x7, .int .i64 R, xa, xb, xk, .int .u64 n] xt, .cells [u, v, y, .raw qv, .int .u64 id] ct => some ([SO.cells [x0, x1, x2, x3, x4, x5, x6, x7, .int .i64 R, xa, xb, xk, .int .u64 n] xt = xO R 3 5 7 n, ko = kO 8 9 10 11, SO.cells [u, v, y, .raw qv, .int .u64 id] ct = ycO (.ptr 14 0) .nilptr (.ptr 22 0) (.raw qv) id, i' = 1, ∃ o, getH H 14 = some o, ∃ o, getH H 22 = some o], .tup [], H)
    | _, _ => none
  | _, _ => none
theorem begY1_ok {args : List SV} {H : List HE} {ob : List Prop} {V : SV} {L : List HE} (hs : begY1 args H = some (ob, V, L)) (ho : AllP ob) : Gives Tryz.prog 12 args H (Is V L) := by
  unfold begY1 at hs
  split at hs
  case h_2 => simp at hs
  split at hs
  case h_2 => simp at hs
  simp only [Option.some.injEq, Prod.mk.injEq] at hs
  obtain ⟨rfl, rfl, rfl⟩ := hs
  simp only [AllP, List.mem_cons, List.not_mem_nil, or_false, forall_eq_or_imp, forall_eq] at ho
  obtain ⟨q1, q2, q3, rfl, ⟨o1, g1⟩, ⟨o2, g2⟩⟩ := ho
  rw [q1, q2, q3] at g1 g2 ⊢
  exact gfB ⟨_, hTE⟩ yb1_fn [2, 3, 5, 7, 8, 9, 10, 11, 14, 22] [.new, .keep, .keep, .new, .keep, .new, .keep, .keep, .keep, .keep] rfl rfl rfl rfl (by repeat' (first | exact ⟨_, getH_some.1 g1⟩ | exact ⟨_, getH_some.1 g2⟩ | exact ⟨_, rfl⟩ | exact trivial | refine And.intro ?_ ?_)) (by repeat' (first | exact there_of_obj (getH_some.1 g1) | exact there_of_obj (getH_some.1 g2) | exact rfl | exact trivial | exact sim_refl _ | exact simO_refl _ | refine And.intro ?_ ?_)) (by (repeat' (first | exact rfl | exact trivial | exact sim_refl _ | refine And.intro ?_ ?_))) (by (repeat' (first | exact rfl | exact trivial | exact sim_refl _ | refine And.intro ?_ ?_))) rfl (by rw [mergeB, appL_eq]; exact (List.append_nil _).trans rfl)
/-- Client 2 has begun. -/
def begY2 : Hx.Spec := fun args H => match args, H with
  | [.ptr 2 0, .int .i64 i', .int .i64 m], e0 :: e1 :: .obj xo :: .obj ao :: .obj wo :: .obj bo :: e6 :: .obj ko :: .obj c0 :: .obj c1 :: .obj c2 :: .obj c3 :: e12 :: e13 :: e14 :: e15 :: e16 :: e17 :: e18 :: e19 :: e20 :: e21 :: e22 :: rest =>
    match xo, c2 with
    | .cells [x0, x1, x2, x3, x4, x5, x6, x7, .int .i64 R, xa, xb, xk, .int .u64 n] xt, .cells [u, v, .raw pv, y, .int .u64 id] ct => some ([SO.cells [x0, x1, x2, x3, x4, x5, x6, x7, .int .i64 R, xa, xb, xk, .int .u64 n] xt = xO R 3 5 7 n, ko = kO 8 9 10 11, SO.cells [u, v, .raw pv, y, .int .u64 id] ct = ycO .nilptr (.ptr 16 0) (.raw pv) (.ptr 24 0) id, i' = 2, ∃ o, getH H 16 = some o, ∃ o, getH H 24 = some o], .tup [], H)
    | _, _ => none
  | _, _ => none
theorem begY2_ok {args : List SV} {H : List HE} {ob : List Prop} {V : SV} {L : List HE} (hs : begY2 args H = some (ob, V, L)) (ho : AllP ob) : Gives Tryz.prog 12 args H (Is V L) := by
  unfold begY2 at hs
  split at hs
  case h_2 => simp at hs
  split at hs
  case h_2 => simp at hs
  simp only [Option.some.injEq, Prod.mk.injEq] at hs
  obtain ⟨rfl, rfl, rfl⟩ := hs
  simp only [AllP, List.mem_cons, List.not_mem_nil, or_false, forall_eq_or_imp, forall_eq] at ho
  obtain ⟨q1, q2, q3, rfl, ⟨o1, g1⟩, ⟨o2, g2⟩⟩ := ho
  rw [q1, q2, q3] at g1 g2 ⊢
  exact gfB ⟨_, hTE⟩ yb2_fn [2, 3, 5, 7, 8, 9, 10, 11, 16, 24] [.new, .keep, .keep, .new, .keep, .keep, .new, .keep, .keep, .keep] rfl rfl rfl rfl (by repeat' (first | exact ⟨_, getH_some.1 g1⟩ | exact ⟨_, getH_some.1 g2⟩ | exact ⟨_, rfl⟩ | exact trivial | refine And.intro ?_ ?_)) (by repeat' (first | exact there_of_obj (getH_some.1 g1) | exact there_of_obj (getH_some.1 g2) | exact rfl | exact trivial | exact sim_refl _ | exact simO_refl _ | refine And.intro ?_ ?_)) (by (repeat' (first | exact rfl | exact trivial | exact sim_refl _ | refine And.intro ?_ ?_))) (by (repeat' (first | exact rfl | exact trivial | exact sim_refl _ | refine And.intro ?_ ?_))) rfl (by rw [mergeB, appL_eq]; exact (List.append_nil _).trans rfl)
/-- Client 3 has begun. -/
def begY3 : Hx.Spec := fun args H => match args, H with
  | [.ptr 2 0, .int .i64 i', .int .i64 m], e0 :: e1 :: .obj xo :: .obj ao :: .obj wo :: .obj bo :: e6 :: .obj ko :: .obj c0 :: .obj c1 :: .obj c2 :: .obj c3 :: e12 :: e13 :: e14 :: e15 :: e16 :: e17 :: e18 :: e19 :: e20 :: e21 :: e22 :: rest =>
    match xo, c3 with
    | .cells [x0, x1, x2, x3, x4, x5, x6, x7, .int .i64 R, xa, xb, xk, .int .u64 n] xt, .cells [u, v, .raw pv, y, .int .u64 id] ct => some ([SO.cells [x0, x1, x2, x3, x4, x5, x6, x7, .int .i64 R, xa, xb, xk, .int .u64 n] xt = xO R 3 5 7 n, ko = kO 8 9 10 11, SO.cells [u, v, .raw pv, y, .int .u64 id] ct = ycO .nilptr (.ptr 18 0) (.raw pv) (.ptr 26 0) id, i' = 3, ∃ o, getH H 18 = some o, ∃ o, getH H 26 = some o], .tup [], H)
    | _, _ => none
  | _, _ => none
theorem begY3_ok {args : List SV} {H : List HE} {ob : List Prop} {V : SV} {L : List HE} (hs : begY3 args H = some (ob, V, L)) (ho : AllP ob) : Gives Tryz.prog 12 args H (Is V L) := by
  unfold begY3 at hs
  split at hs
  case h_2 => simp at hs
  split at hs
  case h_2 => simp at hs
  simp only [Option.some.injEq, Prod.mk.injEq] at hs
  obtain ⟨rfl, rfl, rfl⟩ := hs
  simp only [AllP, List.mem_cons, List.not_mem_nil, or_false, forall_eq_or_imp, forall_eq] at ho
  obtain ⟨q1, q2, q3, rfl, ⟨o1, g1⟩, ⟨o2, g2⟩⟩ := ho
  rw [q1, q2, q3] at g1 g2 ⊢
  exact gfB ⟨_, hTE⟩ yb3_fn [2, 3, 5, 7, 8, 9, 10, 11, 18, 26] [.new, .keep, .keep, .new, .keep, .keep, .keep, .new, .keep, .keep] rfl rfl rfl rfl (by repeat' (first | exact ⟨_, getH_some.1 g1⟩ | exact ⟨_, getH_some.1 g2⟩ | exact ⟨_, rfl⟩ | exact trivial | refine And.intro ?_ ?_)) (by repeat' (first | exact there_of_obj (getH_some.1 g1) | exact there_of_obj (getH_some.1 g2) | exact rfl | exact trivial | exact sim_refl _ | exact simO_refl _ | refine And.intro ?_ ?_)) (by (repeat' (first | exact rfl | exact trivial | exact sim_refl _ | refine And.intro ?_ ?_))) (by (repeat' (first | exact rfl | exact trivial | exact sim_refl _ | refine And.intro ?_ ?_))) rfl (by rw [mergeB, appL_eq]; exact (List.append_nil _).trans rfl)
def begY (i : Nat) (f idle : Bool) : Hx.Spec := match idle with
  | true => begS i f true
  | false => match i with
    | 0 => begY0
    | 1 => begY1
    | 2 => begY2
    | _ => begY3
theorem begY_ok {i : Nat} {f idle : Bool} {args : List SV} {H : List HE} {ob : List Prop} {V : SV} {L : List HE} (hs : begY i f idle args H = some (ob, V, L)) (ho : AllP ob) : Gives Tryz.prog 12 args H (Is V L) := by
  unfold begY at hs
  split at hs
  · exact begS_ok hs ho
  · split at hs
    · exact begY0_ok hs ho
    · exact begY1_ok hs ho
    · exact begY2_ok hs ho
    · exact begY3_ok hs ho
theorem sameN_fn : Gives Tryz.prog 35 [.nilslice, .nilslice] [] (Is .tt []) := by
  refine gives_x hXSu (fn := Tryz.f35) rfl rfl rfl rfl fun ρ w => ?_
  refine sx hXSu [] 400 rfl (by (simp [-List.getD_eq_getElem?_getD, -List.length_eq_zero_iff, conjP])) ?_
  refine sx hXSu [.F] 400 rfl (by (simp [-List.getD_eq_getElem?_getD, -List.length_eq_zero_iff, conjP, addOP])) ?_
  refine sx hXSu [.F] 400 rfl (by (simp [-List.getD_eq_getElem?_getD, -List.length_eq_zero_iff, conjP, addOP])) ?_
  (exact ss_end hXSu [] rfl rfl trivial rfl rfl rfl rfl (by (repeat' (first | exact rfl | exact trivial | exact sim_refl _ | refine And.intro ?_ ?_))) (by (repeat' (first | exact rfl | exact trivial | exact sim_refl _ | refine And.intro ?_ ?_))) (by (repeat' (first | exact rfl | exact trivial | exact sim_refl _ | refine And.intro ?_ ?_))) (by (repeat' (first | exact rfl | exact trivial | exact sim_refl _ | refine And.intro ?_ ?_))))
/-- Rows of words compared. -/
def sameY : Hx.Spec := fun args H => match args with
  | [.nilslice, .nilslice] => some ([], .tt, H)
  | [.sbuf h 1 0 l, .slice h2 0 l2 c] => sameS [.sbuf h 1 0 l, .slice h2 0 l2 c] H
  | [.sbuf h 1 0 l, .sbuf h2 1 0 l2] => sameU [.sbuf h 1 0 l, .sbuf h2 1 0 l2] H
  | _ => none
theorem sameY_ok {args : List SV} {H : List HE} {ob : List Prop} {V : SV} {L : List HE} (hs : sameY args H = some (ob, V, L)) (ho : AllP ob) : Gives Tryz.prog 35 args H (Is V L) := by
  unfold sameY at hs
  split at hs
  · simp only [Option.some.injEq, Prod.mk.injEq] at hs
    obtain ⟨rfl, rfl, rfl⟩ := hs
    have := frame0 (H := H) ⟨_, hTE⟩ sameN_fn rfl rfl
    simp only [List.map_nil, List.append_nil] at this
    exact this
  · exact sameS_ok hs ho
  · exact sameU_ok hs ho
  · simp at hs
end Go.Proofs.YtmghcelohnlceaaGreatDoor
